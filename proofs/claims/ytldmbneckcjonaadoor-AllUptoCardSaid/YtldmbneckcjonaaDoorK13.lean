/- A part of the proof. -/
import Derived.Test.YtldmbneckcjonaaDoorTie
import Derived.Conc.LeavingOf
import Derived.SevenTiedAt
import Derived.Test.YtldmbneckcjonaaDoorCards
import Derived.Test.YtldmbneckcjonaaDoorK6
import Derived.Test.YtldmbneckcjonaaDoorK12
set_option linter.defProp false
set_option linter.unusedVariables false
set_option linter.unusedSimpArgs false
set_option maxRecDepth 100000
set_option maxHeartbeats 8000000
noncomputable section
namespace Go.Proofs.YtldmbneckcjonaaDoor
open Go renaming World->AK,Value->Aq,Goroutine->Ar,Calls->Bf,undef->C0,Addr->Es,TypeId->E1,Program->E2,stepG->KC,Frame->K0,execOp->Lk,bits->Na,Event->Nc
open Go.RowKit renaming Below->Np,wrap64->Nq
open Go.Proofs.Tryd
open Go.RowKit
namespace T
open Go.Conc Go.ConcN
variable{A:Option Es}{a:Act}{k:Nat}{l:List (Nat×Aq)}{ls:List (List (List Aq))}{ops:List Sop}{v w wl:AK}
def N8(f:Nat->Aq):Array Aq:=(f 0::f 1::f 2::f 3::f 4::f 5::f 6::f 7::f 8::f 9::f 10::f 11::f 12::f 13::f 14::f 15::f 16::f 17::f 18::f 19::f 20::f 21::f 22::f 23::f 24::f 25::f 26::f 27::f 28::f 29::f 30::f 31::f 32::f 33::f 34::f 35::f 36::f 37::f 38::f 39::f 40::f 41::f 42::f 43::f 44::f 45::f 46::f 47::f 48::f 49::f 50::f 51::f 52::f 53::f 54::f 55::f 56::f 57::f 58::f 59::f 60::f 61::f 62::f 63::f 64::f 65::f 66::f 67::f 68::f 69::f 70::f 71::f 72::f 73::f 74::f 75::f 76::f 77::f 78::f 79::f 80::f 81::f 82::f 83::f 84::f 85::f 86::f 87::f 88::f 89::f 90::f 91::f 92::f 93::f 94::f 95::f 96::f 97::f 98::f 99::f 100::f 101::f 102::f 103::f 104::f 105::f 106::f 107::f 108::f 109::f 110::f 111::f 112::f 113::f 114::f 115::f 116::f 117::f 118::f 119::f 120::f 121::f 122::f 123::f 124::f 125::f 126::f 127::f 128::f 129::f 130::f 131::f 132::f 133::f 134::f 135::f 136::f 137::f 138::f 139::f 140::f 141::f 142::f 143::f 144::f 145::f 146::f 147::f 148::f 149::f 150::f 151::[]).toArray
def PH(t:Array Aq)(h:t.size=152):∃f:Nat->Aq,t=N8 f/\∀i x,t[i]?=some x->f i=x:=
 ⟨λi=>t.getD i default,(p9 t h).trans rfl,λi x b=>by simp[aay,b]⟩
def jq(l:List (Nat×Aq))(a:Act):Prop:=a.tmps.size=152/\a.defers=[]/\∀p,p∈l->a.tmps[p.1]?=p.2
def jq.lit(h:jq l a):∃f:Nat->Aq,a=⟨N8 f,[]⟩/\∀p,p∈l->f p.1=p.2:=by
 obtain⟨t,ds⟩:=a;obtain⟨b,rfl,c⟩:=h;obtain⟨f,e,d⟩:=PH t b;exact⟨f,by rw[<-e],λp g=>d _ _ (c p g)⟩
def jq.sub{l':List (Nat×Aq)}(h:jq l a)(b:∀p,p∈l'->p∈l):jq l' a:=⟨h.1,h.2.1,λp c=>h.2.2 p (b p c)⟩
def jq.ev(h:jq l a){x:Aq}(b:(k,x)∈l):a.eval (.tmp k)=x:=by
 have:=h.2.2 _ b;simp[Act.eval,this]
def jq.ok{m:Md}(h:jq l a)(c:∀v,m.V v):dD m a:=⟨λv _=>c v,λd b=>by rw[h.2.1]at b;simp at b⟩
def jq.put(h:jq l a)(c:k<152)(x:Aq)(d:∀p,p∈l->p.1≠k):jq ((k,x)::l) (a.put k x):=by
 refine⟨by simpa[Act.put]using h.1,h.2.1,λp b=>?_⟩;rcases ZM.1 b with rfl|b
 .simp[Act.put,h.1,c]
 have:=d p b;simp only[Act.put];rw[ZF oM];exact h.2.2 p b
structure CU(w v:AK):Prop where
 cell:∀a x,w a=some x->v a=some x
 size:(w:Nat)<=v
section
variable{w v:AK}{A A':Option Es}{size cap' b o:Nat}
def CU.rows(h:CU w v){d:List (List Aq)}(e:bE w A size d):bE v A size d:=λk cs f=>by
 obtain⟨a,g,i,j,m⟩:=e k cs f;exact⟨a,g,i,ZB j h.size,λc u n=>h.cell _ _ (m c u n)⟩
def CU.lists(h:CU w v)(d:bh w A size ls):bh v A size ls:=λi c e=>by
 obtain⟨a,A',cap',f,g,j,m,n⟩:=d i c e;exact⟨a,A',cap',f,g,ZB j h.size,h.cell _ _ m,h.rows n⟩
def CU.low(h:CU w v)(d:lA w w A size ls):lA v v A size ls:=λi c e=>by
 obtain⟨a,A',cap',f,g,j,m,n,q⟩:=d i c e;exact⟨a,A',cap',f,g,ZB j h.size,h.cell _ _ m,λr p s=>ZB (n r p s) h.size,h.rows q⟩
def CU.op(h:CU w v){s:Sop}(c:uv w b o A' cap' s):uv v b o A' cap' s:=
 ⟨h.cell _ _ c.c0,h.cell _ _ c.c1,h.cell _ _ c.c2,h.cell _ _ c.c3,h.cell _ _ c.c4,h.cell _ _ c.c5,h.cell _ _ c.c6,h.cell _ _ c.c7,h.lists c.l⟩
end
def OpsL(w:AK)(A:Option Es)(ops:List Sop):Prop:=
 ∀(i:Nat)(s:Sop),ops[i]?=s->∃c d A' b,A=aD c d/\uv w c (d+i*8) A' b s/\lA w w A' 5 (s.ls.map (·.map lrC))
def OpsL.cu(h:OpsL w A ops)(c:CU w v):OpsL v A ops:=λi s d=>by
 obtain⟨e,f,A',b,g,j,m⟩:=h i s d;exact⟨e,f,A',b,g,c.op j,c.low m⟩
def OpsL.at(h:OpsL w A ops):Lf w A ops:=λi s c=>by
 obtain⟨f,g,A',b,d,e,j⟩:=h i s c;exact⟨_,A',b,d,rfl,e⟩
def rW{c:AK}{Dd:Nat->Prop}(f:∀b,b<(c:Nat)->v.heap[b]?=c.heap[b]?)(g:(c:Nat)<=v)(i:∀b,Dd b->(c:Nat)<=b)(T:Nat->Question->Nat):CU c (aK (fu Dd v) T v):=by
 refine⟨λa x d=>?_,by simpa[aK,fu]using g⟩;have e:a.block<c:=by
  unfold World.cell? at d;split at d
  .rename_i h;exact(Zq.1 h).1
  cases d
 exact Gq ((ZW (f _ e)).trans d) (λh=>by have:=i _ h;omega) T
def xr{m:Md}(h:Tr m wl v){B t size n:Nat}{s:Aq}{e:List Aq}(d:ia wl B t size s n e):ia v B t size s n e:=by
 refine⟨d.1,(let⟨A,cap,q1,q2⟩:=d.2.1;⟨A,cap,q1,λp o=>by have:=q2 p o;have:=h.size;omega⟩),λq=>?_⟩;obtain⟨g,cap,b,r,u,x,f⟩:=d.2.2 q;obtain⟨c,y,z,C⟩:=h.cells x;have j:n*size<=b.size:=by
  have:=d.1;rw[<-f,aaY,adU]at this;omega
 refine⟨g,cap,c,r,u,y,?_⟩;rw[<-f];apply ab5;intro i;rw[aau,aau];split
 .rw[aar,aar,Z5 (show i<b.size by omega)];exact z _ _ (Z5 _)
 rfl
def SW.tr{m:Md}(h:Tr m wl v){u:Aq}{b:List Stp}(c:SW wl u b):SW v u b:=by
 obtain⟨ps,d,e,f⟩:=c;refine⟨ps,d,xr h e,λp g=>?_⟩;obtain⟨j,n,o⟩:=f p g;exact⟨j,xr h n,λi rs q=>(let⟨s,h5,h6⟩:=o i rs q;⟨s,h5,xr h h6⟩)⟩
def Ov:Code:=match oo with|.seq c _=>c|_=>.skip
def Ou:Code:=match oo with|.seq _ (.seq c _)=>c|_=>.skip
def Oq:Code:=match oo with|.seq _ (.seq _ (.seq _ (.seq c _)))=>c|_=>.skip
def IX:Ov=.region 0 #[{dst:=some 2,op:=.assign (.const (.bool false)),type:=4,pos:= "law.go:95",after:=#[],guard:=none}] false:=by kernel_rfl
def IT:Ou=.region 1 #[{dst:=some 3,op:=.assign (.const (.slice none 0 0)),type:=33,pos:= "law.go:96",after:=#[],guard:=none}] false:=by kernel_rfl
def mO:Array Oper:=#[{dst:=some 49,op:=.move (.tmp 3),type:=33,pos:= "law.go:103",after:=#[],guard:=none},{dst:=some 50,op:=.call {callee:=.value (.func 22),args:=#[.tmp 49],argTypes:=#[33]},type:=38,pos:= "law.go:103",after:=#[{on:=0,ground:=.data}],guard:=none},{dst:=some 6,op:=.assign (.tmp 50),type:=38,pos:= "law.go:103",after:=#[{on:=1,ground:=.data},{on:=1,ground:=.chain},{on:=0,ground:=.phase},{on:=1,ground:=.phase}],guard:=none}]
def Pq:mO[0]?=some {dst:=some 49,op:=.move (.tmp 3),type:=33,pos:= "law.go:103",after:=#[],guard:=none}:=rfl
def Pp:mO[1]?=some {dst:=some 50,op:=.call {callee:=.value (.func 22),args:=#[.tmp 49],argTypes:=#[33]},type:=38,pos:= "law.go:103",after:=#[{on:=0,ground:=.data}],guard:=none}:=rfl
def Po:mO[2]?=some {dst:=some 6,op:=.assign (.tmp 50),type:=38,pos:= "law.go:103",after:=#[{on:=1,ground:=.data},{on:=1,ground:=.chain},{on:=0,ground:=.phase},{on:=1,ground:=.phase}],guard:=none}:=rfl
def II:Oq=.region 8 mO false:=by kernel_rfl
def Hc:oo=.seq Ov (.seq Ou (.seq tB (.seq Oq qQ))):=by kernel_rfl
def Gh:aG prog wu glC false tB:=by kernel_rfl
def I6:aG prog wu glC false qQ:=by kernel_rfl
def Kg:∃f,prog.funcs[15]?=some f:=⟨_,func15⟩
structure SayO(x:LR->Nat×Nat×Bool)(ops:List Sop):Prop where
 len:(ops:Nat)<=1048576
 ll:∀s,s∈ops->(s.ls:Nat)<=1048576/\∀rs,rs∈s.ls->(rs:Nat)<=1048576
 lt:∀r,(x r).2.1<256
 soft:∀s,s∈ops->∀rs,rs∈s.ls->∀r,r∈rs->(∀W,aT W->Bf prog 29 #[REC r.o r.m r.a r.b r.c] W (ai (x r).1 (x r).2.1 (x r).2.2 W))/\x r=(iY r).res/\(iY r).Ok
 ref:∀s,s∈ops->∀rs,rs∈s.ls->∀r,r∈rs->∀W,Bf prog 35 #[eV r.o r.m r.a r.b r.c] W (ah (x r).1 (x r).2.1 (x r).2.2 W)
def zU{st:Stp}(h:st∈aI ops):∃s,s∈ops/\st.ls=s.ls:=by
 unfold aI at h;obtain⟨s,c,b⟩:=List.mem_filterMap.1 h;unfold stp at b;split at b
 .obtain rfl:=ZO b;exact⟨s,c,rfl⟩
 cases b
def SayO.say{x:LR->Nat×Nat×Bool}(h:SayO x ops):∀st,st∈aI ops->Say x st:=λst f=>by
 obtain⟨s,d,e⟩:=zU f;refine⟨by rw[e];exact(h.ll s d).1,by rw[e];exact(h.ll s d).2,λrs c r b=>?_,λrs c r b=>?_,λrs c r b=>?_⟩<;>rw[e]at c
 .exact(h.soft s d rs c r b).1
 .exact(h.soft s d rs c r b).2.1
 exact(h.soft s d rs c r b).2.2
section
attribute[local go_sem] pg tP
variable{Goal:Machine->Trace->Prop}{w0:AK}{A:Option Es}{cap:Nat}{ops:List Sop}{x:LR->Nat×Nat×Bool}{c₁:K0}{cs:List K0}
def Gs(hO:OpsL w0 A ops)(Z:SayO x ops)(ha:jq [(3,.slice none 0 0),(2,.bool false),(0,.slice A ops cap)] a):
 tB.wp prog (λe a' W=>e=.normal/\∃E,jq [(3,E),(0,.slice A ops cap)] a'/\SW W E (aI ops)/\∀b,b<(w0:Nat)->W.heap[b]?=w0.heap[b]?) a w0:=by
 suffices hs5:∀Q:Exit->Act->AK->Prop,(∀a' W E,jq [(3,E),(0,.slice A ops cap)] a'->Np w0 w0 W->lz W w0 E (aI ops)->Q .normal a' W)->tB.wp prog Q a w0 from
  hs5 _ λa' W E S K D=>⟨rfl,E,S,SW.of D,λb o=>K.block b o⟩
 intro Q hQ;have hlen:=Z.len;replace hQ:=Zp @hQ;have hO:=Zp hO.at;have hll:=Zp (λs hs=>⟨(Z.ll s hs).1,λ(i:Nat)(rs:List LR)(hi:s.ls[i]?=rs)=>(Z.ll s hs).2 rs (aae hi)⟩:∀s,s∈ops->(s.ls:Nat)<=1048576/\∀(i:Nat)(rs:List LR),s.ls[i]?=rs->(rs:Nat)<=1048576);clear Z;obtain⟨f,rfl,hf⟩:=ha.lit;unfold N8;simp only[aaj,ZG,aaS,aa3,and_true]at hf;obtain⟨D,K,h0⟩:=hf;rw[D,h0];clear D K h0;conv=>arg 2;whnf
 go_wp2
 go_loopw[3,4] (λv i wr=>∃k:Nat,k<=ops/\i=iI k/\Np w0 w0 wr/\Hid (lz wr w0 v (aI (ops.take k)))) (λ_ i _=>ops-(intOf i).toNat)
 case atStart=>exact⟨0,Z7 _,rfl,Zx _ _,Zp (lz.nil w0 _)⟩
 obtain⟨k,hk,rfl,t,I⟩:=hrel;have h60:Few k:=by unfold Few;omega
 by_cases J:k<ops
 .obtain⟨s,L⟩:∃s,ops[k]?=some s:=⟨_,ZN J⟩;obtain⟨⟨ab,ao,asp⟩,A',u,rfl,T,M⟩:=hO.out k s L;simp only at T M;subst T;have U:=M.below t;obtain⟨c0,c1,c2,c3,c4,c5,c6,c7,hl⟩:=U;have ead:(aD ab ao:Es).add (k*8)=aD ab (ao+k*8):=by simp[Addr.add]
  have hkp:(k:Int)<ops:=oM;have B:=hll.out s (aae L);have m:=oF L;replace hl:=Zp hl;replace B:=Zp B;replace m:=Zp m;clear M;have q:Np wr wr (aC wr #[iI s.kd,iI s.a,iI s.op,iI s.md,iU s.x,iU s.y,iU s.z,.slice A' s.ls u] 31):=(Zx _ _).alloc (Zo _) _;have C:stp s=if s.kd=3\/s.kd=4 then some ⟨s.kd==4,s.a,s.ls⟩else none:=rfl;by_cases D:s.kd=3
  .rw[ZC (.inl D)]at C;(have e3:(s.kd==3):=by simp[D]);(have e4:(s.kd==4)=false:=by simp[D]);clear D;go_upto_region 7 with(fail);obtain⟨ps,F,n,G⟩:=I.out;obtain⟨V,X,rfl⟩:=ba n;have N:(ps:Nat)<=1048576:=by
    have S:=aal List.length F;rw[aao]at S;have K:((aI (ops.take k)):Nat)<=(ops.take k):=acs _ _;rw[aaY]at K;omega
   have r:∀g,(Value.slice V ps X).ownBlock=some g->(w0:Nat)<=g/\g<(wr:Nat):=λg O=>ak n O;have hws:=t.size;refine vL w0 wr ps X V s.kd s.a A' u s.ls B.out.1 B.out.2 (hl.out.below q) (by rw[ZK _ _ _ _ rfl];rfl) (by rw[ZK _ _ _ _ rfl];rfl) (by rw[ZK _ _ _ _ rfl];rfl) ps rfl N (n.alloc _) (λp P=>(G p P).below q) sO (λg O=>by have:=r g O;omega) ?_;intro WZ WY WX WW WV WU WT WS WQ WO WN WM W E o Y;have H:Np w0 w0 W:=by
    refine⟨o.os.trans t.os,o.tape.trans t.tape,o.output.trans t.output,by have:=o.size;simp at this;omega,λj hj=>?_⟩;exact(o.block j sO (λe=>by have:=r j e;omega)).trans ((aap _ _ _ oM).trans (t.block j hj))
   have d:lz W w0 E (aI (ops.take (k+1))):=by
    rw[m.out,C,<-F];exact Y
   replace d:=Zp d;clear Y o r n G q c0 c1 c2 c3 c4 c5 c6 c7
   go_wp2
   go_roundw
   case rel=>exact⟨k+1,J,by go_num,H,d⟩
   simp[intOf];omega
  by_cases R:s.kd=4
  .rw[ZC (.inr R)]at C;(have e3:(s.kd==3)=false:=by simp[R]);(have e4:(s.kd==4):=by simp[R]);clear D R;go_upto_region 7 with(fail);obtain⟨ps,F,n,G⟩:=I.out;obtain⟨V,X,rfl⟩:=ba n;have N:(ps:Nat)<=1048576:=by
    have S:=aal List.length F;rw[aao]at S;have K:((aI (ops.take k)):Nat)<=(ops.take k):=acs _ _;rw[aaY]at K;omega
   have r:∀g,(Value.slice V ps X).ownBlock=some g->(w0:Nat)<=g/\g<(wr:Nat):=λg O=>ak n O;have hws:=t.size;refine vL w0 wr ps X V s.kd s.a A' u s.ls B.out.1 B.out.2 (hl.out.below q) (by rw[ZK _ _ _ _ rfl];rfl) (by rw[ZK _ _ _ _ rfl];rfl) (by rw[ZK _ _ _ _ rfl];rfl) ps rfl N (n.alloc _) (λp P=>(G p P).below q) sO (λg O=>by have:=r g O;omega) ?_;intros;rename_i W E o Y;have H:Np w0 w0 W:=by
    refine⟨o.os.trans t.os,o.tape.trans t.tape,o.output.trans t.output,by have:=o.size;simp at this;omega,λj hj=>?_⟩;exact(o.block j sO (λe=>by have:=r j e;omega)).trans ((aap _ _ _ oM).trans (t.block j hj))
   have d:lz W w0 E (aI (ops.take (k+1))):=by
    rw[m.out,C,<-F];exact Y
   replace d:=Zp d;clear Y o r n G q c0 c1 c2 c3 c4 c5 c6 c7
   go_wp2
   go_roundw
   case rel=>exact⟨k+1,J,by go_num,H,d⟩
   simp[intOf];omega
  rw[Zr (by rintro(h|h)<;>contradiction)]at C;have e3:(s.kd==3)=false:=by simp[D]
  have e4:(s.kd==4)=false:=by simp[R]
  clear D R;have H:Np w0 w0 (aC wr #[iI s.kd,iI s.a,iI s.op,iI s.md,iU s.x,iU s.y,iU s.z,.slice A' s.ls u] 31):=t.alloc t.size _;have d:=I.out.below q;have hS2:aI (ops.take (k+1))=aI (ops.take k):=by rw[m.out,C];simp
  rw[<-hS2]at d;replace d:=Zp d
  go_wp2
  go_roundw
  case rel=>exact⟨k+1,J,by go_num,H,d⟩
  simp[intOf];omega
 obtain rfl:k=ops:=oM
 go_wp2
 exact hQ.out _ wr _ ⟨rfl,rfl,λp P=>by
  simp only[ZM,ZG,aaV]at P;rcases P with rfl|rfl<;>rfl⟩ t (by have:=I.out;rwa [aaL]at this)
def afb(M:OpsL w A ops)(n:SayO x ops){z:Option Es}{N:Nat}(j:∀(k:Nat)(y:TD),(gf x 0 (aI ops))[k]?=y->∃tb d B C,z=aD tb d/\uo w w tb (d+k*3) B C y)(S:jq [(6,.slice z (aI ops) N),(0,.slice A ops cap)] a):
 qQ.wp prog (λe a' w'=>e=.ret/\a'.tmps[2]?=some (.bool true)/\a'.defers=[]/\∀b,b<(w:Nat)->w'.heap[b]?=w.heap[b]?) a w:=by
 suffices D:∀Q:Exit->Act->AK->Prop,(∀t W,t[2]?=some (.bool true)->Np w w W->Q .ret ⟨t,[]⟩ W)->qQ.wp prog Q a w from
  D _ λt W o p=>⟨rfl,o,rfl,λb T=>p.block b T⟩
 intro Q E;replace E:=Zp E;have g:Np w w (aC w #[iI 0] 42):=(Zx _ _).alloc (Zo _) _;have F:(aC w #[iI 0] 42) (aD w 0)=some (iI (0:Nat)):=by rw[ZK _ _ _ _ rfl];rfl
 have G:(aC w #[iI 0] 42).frozen? (aD w 0)=false:=o8 _ _ _;have h:(w:Nat)<=(aC w #[iI 0] 42):=sM;have q:=Zp M;replace j:=Zp j;have r:=n.len;have U:=n.lt;have H:=n.ll;have I:=n.ref;clear M n;obtain⟨f,rfl,O⟩:=S.lit;unfold N8;simp only[aaj,ZG,aaS,aa3,and_true]at O;obtain⟨P,R⟩:=O;rw[P,R];clear P R;conv=>arg 2;whnf
 refine abZ ?_;intro K1 J;replace J:=Zp J
 go_wp2
 refine J.out _ _ ?_;refine abZ ?_;intro K2 K;replace K:=Zp K
 go_wp2
 refine K.out _ _ ?_;refine abZ ?_;intro K3 L;replace L:=Zp L;refine z8 w A z cap (aI ops) N ops r x U rfl H ?_ ?_ I F G ?_
 .intro i s V;obtain⟨X,Y,A',u,o,p,Z⟩:=q.out i s V;exact⟨X,Y,A',u,o,λW m=>⟨p.below (kY g m (Zo _) h),Z.below (kY g m (Zo _) h)⟩⟩
 .intro k y hk;obtain⟨tb,d,B,C,o,p⟩:=j.out k y hk;exact⟨tb,d,B,C,o,λW m=>p.below (kY g m (Zo _) h)⟩
 intros;rename_i W m;have hB:=kY g m (Zo _) h;refine L.out _ _ ?_;clear m
 go_wp2
 exact E.out _ W rfl hB
def HU(i:OpsL w A ops)(j:SayO x ops){g:Aq}(m:Dq w g (gf x 0 (aI ops)))(h:jq [(6,g),(0,.slice A ops cap)] a):
 ∃w',Steps prog (lone ((base 15).at a [.code qQ]) [c0] w) (lone (c0.finish (.bool true)) [] w')/\∀b,b<(w:Nat)->w'.heap[b]?=w.heap[b]?:=by
 obtain⟨r,s,rfl,f⟩:=m.td;rw[pQ]at h;obtain⟨e,a',w',⟨rfl,n,o,p⟩,d⟩:=afb i j f h (base 15) [] [c0];obtain⟨todo,q⟩:=d;refine⟨w',q.trans (.one (ab9 ⟨rfl,o,rfl,f15,func15,?_⟩)),p⟩;show(results f15 a'.tmps).run _ _=_;simp[results,f15,n]
def Qj(hT:ga w0)(hO:OpsL w0 A ops)(r:SayO x ops)
 (s:∀(t:Loc->Prop)(Dd:Nat->Prop)(v:AK),(∀l,t l->∃a,l=.cell a/\Dd a.block)->(∀b,Dd b->(w0:Nat)<=b/\b<(v:Nat))->(w0:Nat)<=v->(∀b,b<(w0:Nat)->v.heap[b]?=w0.heap[b]?)->
  v.tape=w0.tape->v.os=w0.os->v.output=w0.output->Way Goal t (G (c₁.finish (.bool true)) cs) v):
 Way Goal (λ_=>False) (G (Frame.enter prog 15 #[.slice A ops cap] .normal) (c₁::cs)) w0:=by
 rw[aeo (c:=oo) _ func15 rfl];have u:jq [(0,.slice A ops cap)] {tmps:=#[.slice A ops cap]++Array.replicate (f15.ntmps-(#[Value.slice A ops cap]:Array Aq).size) C0,defers:=[]}:=⟨by simp[f15],rfl,λp N=>by
  obtain rfl:=aag.1 N;simp⟩
 generalize({tmps:=#[.slice A ops cap]++Array.replicate (f15.ntmps-(#[Value.slice A ops cap]:Array Aq).size) C0,defers:=[]}:Act)=a0 at u⊢;rw[Hc];refine .seq ?_;rw[IX];refine .region ?_;refine ae7 (x:=.bool false) rfl rfl dC (λv=>by simp[Lk,Act.eval]) (λv=>by simp[Lk]) ?_;refine .region_end ?_;have O:=jq.put u (k:=2) dC (.bool false) sM;refine .seq ?_;rw[IT];refine .region ?_;refine ae7 (x:=.slice none 0 0) rfl rfl dC (λv=>by simp[Lk,Act.eval]) (λv=>by simp[Lk]) ?_;refine .region_end ?_;have z:=jq.put O (k:=3) dC (.slice none 0 0) sM;refine .seq ?_;refine Way.piece (m:=mdS w0 λ_=>False) (cxS _ _) (λb d=>d) (λl hl=>hl.elim) Kg Gh (H:=fu (λ_=>False) w0) (z.ok λ_=>trivial) (trS λ_ h=>h.elim)
  (R:=λa' W=>∃g,jq [(3,g),(0,.slice A ops cap)] a'/\SW W g (aI ops)/\∀b,b<(w0:Nat)->W.heap[b]?=(fu (λ_=>False) w0)[b]?) (λT=>?_) ?_
 .have hz:((aK (fu (λ_=>False) w0) T w0):Nat)=w0:=by simp[aK,fu]
  exact abx (λe a' W hq=>by
   obtain⟨q1,g,P,q3,q4⟩:=hq;exact⟨q1,g,P,q3,λb d=>q4 b oM⟩) (Gs (hO.cu (rW (λ_ _=>rfl) (Zo _) (λ_ h=>h.elim) T)) r z)
 rintro a1 wl1 Q⟨g,B,S,hk⟩ _ f;have t1:=trS (w:=w0) (Dd:=λ_=>False) (λ_ h=>h.elim) (λ_ _=>0);have n:∀b,b<(w0:Nat)->Q.heap[b]?=w0.heap[b]?:=λb d=>f.block t1 (show¬(w0:Nat)<=b by omega) d (hk b d);have hs1:=f.size;have C:=SW.tr f.tr S;have U:ga Q:=by
  obtain⟨fz,h0⟩:=hT;exact⟨fz,(n 0 (Zq.1 h0).1).trans h0⟩
 refine .seq ?_;rw[II];refine .region ?_;show Way Goal _ (G ((base _).at a1 (.inRegion mO [0,1,2]::.code qQ::[])) (c₁::cs)) Q;have e3:=B.ev (k:=3) (x:=g) sM;refine ae7 (x:=g) Pq rfl dC (λv=>by simp only[Lk];exact aal (λx=>Result.ok (Next.value x) v) e3) (λv=>by simp[Lk]) ?_;have D:=jq.put B (k:=49) dC g sM;have V:=D.ev (k:=49) (x:=g) sM;refine Way.enter (b:=base _) Pp rfl dC rfl func22 rfl rfl (vals:=#[g]) (by simp[V]) ?_;have E:((aI ops):Nat)<=1048576:=Zz (acs _ _) r.len;refine Pd U C E r.lt r.say ?_;intro t Dd v q F i I hs2 J ht ho hu;rw[acG];show Way Goal t (G ((base _).at ((a1.put (some 49) g).put (some 50) q) (.inRegion mO [2]::.code qQ::[])) (c₁::cs)) v;have K:=jq.put D (k:=50) dC q sM;have X:=K.ev (k:=50) (x:=q) sM;refine ae7 (x:=q) Po rfl dC (λv=>by simp only[Lk];exact aal (λx=>Result.ok (Next.value x) v) X) (λv=>by simp[Lk]) ?_;refine .region_end ?_;have L:jq [(6,q),(0,.slice A ops cap)] _:=(jq.put K (k:=6) dC q sM).sub λp N=>by
  simp only[ZM,ZG,aaV]at N⊢;rcases N with rfl|rfl<;>simp
 have o:∀b,b<(w0:Nat)->v.heap[b]?=w0.heap[b]?:=λb d=>(J b oM).trans (n b d);refine Way.tail (m:=mdS v Dd) (H:=fu Dd v) (cxS _ _) (λb d=>d) F Kg (by
  intro it Y;obtain rfl:=aag.1 Y;exact I6) (L.ok λ_=>trivial) (trS λb d=>(i b d).2) (R:=λy W=>y=.bool true/\∀b,b<(v:Nat)->W.heap[b]?=(fu Dd v)[b]?) (λT=>?_) ?_
 .have hz:((aK (fu Dd v) T v):Nat)=v:=by simp[aK,fu]
  obtain⟨w',q1,P⟩:=HU (hO.cu (rW o oM (λb d=>by have:=(i b d).1;omega) T)) r (I T) L;exact⟨_,w',q1,rfl,λb d=>P b oM⟩
 rintro y wl2 v2⟨rfl,Z⟩ _ j;have t2:=trS (w:=v) (Dd:=Dd) (λb d=>(i b d).2) (λ_ _=>0);have M:∀b,b<(v:Nat)->v2.heap[b]?=v.heap[b]?:=λb d=>j.block t2 (show¬(v:Nat)<=b by omega) d (Z b d);have hs3:=j.size;exact s t Dd v2 F (λb d=>⟨by have:=(i b d).1;omega,by have:=(i b d).2;omega⟩) oM (λb d=>(M b oM).trans (o b d)) (j.tape.trans (ht.trans f.tape)) (j.os.trans (ho.trans f.os)) (j.out.trans (hu.trans f.out))
end
end T
section
open Go.ChangeShapes Go.WideShapes Go.Deep
variable{cs:List Aq}{fuel:Nat}
section
variable{H:Type}
def KN(d:DataW H):1<=Rows.uptoBulk d:=by
 cases d with
 |lit l=>cases l<;>simp[Rows.uptoBulk]
 |_=>simp[Rows.uptoBulk]
def qF{d:DataW H}{l:List (DataW H)}(h:d∈l):Rows.uptoBulk d<=Rows.uptoBulkAll l:=by
 induction l with
 |nil=>cases h
 |cons x r a=>
  simp only[Rows.uptoBulkAll];rcases ZM.1 h with rfl|h
  .omega
  have:=a h;omega
def KO(l:List (DataW H)):l<=Rows.uptoBulkAll l:=by
 induction l with
 |nil=>simp[Rows.uptoBulkAll]
 |cons x r a=>have:=KN x;simp only[Rows.uptoBulkAll,Z6];omega
def om{D:Nat->DataW H}{a:Nat}{b:List (DataW H)}:a<=Rows.uptoBulk (.slice ((List.range a).map D) b)/\∀i,i<a->Rows.uptoBulk (D i)<=Rows.uptoBulk (.slice ((List.range a).map D) b):=by
 simp only[Rows.uptoBulk];refine⟨?_,λi c=>?_⟩
 .have:=KO ((List.range a).map D);simp at this;omega
 have:=qF (d:=D i) (l:=(List.range a).map D) (acp.2 ⟨i,ado.2 c,rfl⟩);omega
end
def U3(r:LR):Prop:=U64 r.a/\U64 r.b/\U64 r.c
section
variable{H:Type}{enc:E1×Aq->H}{w:AK}{base:Nat}{sp:Nat->Bool}{hd:Bool}
def Cs{d:DataW H}{ps:List MemPlace}(h:DataW.trod enc prog w base sp hd fuel 48 cs=some (d,ps)):
 ∃(A:Option Es)(rs:List LR)(cap:Nat),cs=[.slice A rs cap]/\rs<=Rows.uptoBulk d/\bE w A 5 (rs.map lrC)/\∀r,r∈rs->U3 r:=by
 rcases open_slice underlying48 h with⟨l,_⟩|⟨a,e,cap,m,n,D,Pl,B,_,hl,hm,C,E,p⟩
 .exact⟨none,[],0,l,sM,λk cs t=>by simp at t,λr F=>by simp at F⟩
 have g:∀i,i<e->∃r:LR,U3 r/\∀c u,(lrC r)[c]?=some u->w ((a.add (i*5)).add c)=some u:=λi hil=>by
  have G:i<m:=by rw[C];split<;>omega
  obtain⟨I,P,ht⟩:=p i G;rw[ue]at P;obtain⟨_,J,K⟩:=adi P;obtain⟨zs,n2,_,_,_,L,q⟩:=ab6 underlying28 ht
  match I,J with
  |[c0,c1,c2,c3,c4],_=>
   match zs,L with
   |[z0,z1,z2,z3,z4],_=>
    have Q:=q 0 {name:= "Op",type:=3,offset:=0,embedded:=false,tag:= "",pkgPath:= "",byteOffset:=0} rfl;have R:=q 1 {name:= "Mode",type:=3,offset:=1,embedded:=false,tag:= "",pkgPath:= "",byteOffset:=8} rfl;have S:=q 2 {name:= "A",type:=26,offset:=2,embedded:=false,tag:= "",pkgPath:= "",byteOffset:=16} rfl;have T:=q 3 {name:= "B",type:=26,offset:=3,embedded:=false,tag:= "",pkgPath:= "",byteOffset:=24} rfl;have U:=q 4 {name:= "C",type:=26,offset:=4,embedded:=false,tag:= "",pkgPath:= "",byteOffset:=32} rfl;simp only[mg,tZ,acf,abB,abA,ace,ZE,ZI]at Q R S T U;obtain⟨op,e2,_,w2⟩:=aaI underlying3 Q;obtain⟨md,W,_,w3⟩:=aaI underlying3 R;obtain⟨x,X,_,w4⟩:=aaI underlying26 S;obtain⟨y,Y,_,w5⟩:=aaI underlying26 T;obtain⟨z,Z,_,w6⟩:=aaI underlying26 U;simp only[abd,and_true]at e2 W X Y Z;subst e2 W X Y Z;obtain⟨x,rfl,E⟩:=dJ w4;obtain⟨y,rfl,hy⟩:=dJ w5;obtain⟨z,rfl,hz⟩:=dJ w6;refine⟨⟨op,md,x,y,z⟩,⟨E,hy,hz⟩,λc u v=>?_⟩;have f:c<5:=(ZL.1 v).1;have h:=K c f;rw[h];rw[<-v];rfl
 have M:∃V:Nat->LR,∀i,i<e->U3 (V i)/\∀c u,(lrC (V i))[c]?=some u->w ((a.add (i*5)).add c)=some u:=⟨λi=>if h:i<e then(g i h).choose else⟨0,0,0,0,0⟩,λi h=>by simp only[h,dite_true];exact(g i h).choose_spec⟩;obtain⟨V,s⟩:=M;have hV:=λi p=>(s i p).2;have N:e<=Rows.uptoBulk d:=by
  rw[(aeX E).1];exact om.1
 refine⟨some a,(List.range e).map V,cap,by simpa using B,by simpa using N,λk cs t=>?_,λr F=>(by
  obtain⟨i,p,rfl⟩:=acp.1 F;exact(s i (ado.1 p)).1)⟩
 rw[adZ,aaf]at t;obtain⟨j,hj,rfl⟩:=ZX.1 t;obtain⟨f,rfl⟩:=ZL.1 hj;simp only[aee]at f;simp only[ad5,Function.comp];have l:=hV 0 oM 0 _ rfl;have e0:(a.add (0*5)).add 0=a:=rfl;rw[e0]at l;obtain⟨b,o,O⟩:=a;obtain rfl:O=none:=qC l;refine⟨aD b o,rfl,rfl,bX l,λc u v=>?_⟩;have:=hV k f c u v;rw[mr,mr]at this;exact this
def zK{L:Aq}{d:DataW H}{ps:List MemPlace}(h:DataW.trod enc prog w base sp hd fuel 29 [L]=some (d,ps)):
 ∃(A:Option Es)(u:List (List LR))(cap:Nat),L=.slice A u cap/\u<=Rows.uptoBulk d/\(∀rs,rs∈u->rs<=Rows.uptoBulk d/\∀r,r∈rs->U3 r)/\lA w w A 5 (u.map (·.map lrC)):=by
 rcases open_slice underlying29 h with⟨v,_⟩|⟨a,c,cap,m,n,D,Pl,z,_,hl,hm,B,P,C⟩
 .exact⟨none,[],0,by simpa using v,sM,λrs l=>by simp at l,λk cs x=>by simp at x⟩
 have f:∀i,i<c->∃q:Option Es×List LR×Nat,w (a.add i)=some (.slice q.1 q.2.1.length q.2.2)/\q.2.1.length<=Rows.uptoBulk (D i)/\bE w q.1 5 (q.2.1.map lrC)/\∀r,r∈q.2.1->U3 r:=λi Q=>by
  have E:i<m:=by rw[B];split<;>omega
  obtain⟨R,K,S⟩:=C i E;rw[NA,adK]at K;obtain⟨A,rs,cap,rfl,F,l,T⟩:=Cs S;obtain⟨_,U,G⟩:=adi K;have:=G 0 oM;exact⟨(A,rs,cap),this,F,l,T⟩
 have I:∃V:Nat->Option Es×List LR×Nat,∀i,i<c->w (a.add i)=some (.slice (V i).1 (V i).2.1.length (V i).2.2)/\(V i).2.1.length<=Rows.uptoBulk (D i)/\bE w (V i).1 5 ((V i).2.1.map lrC)/\∀r,r∈(V i).2.1->U3 r:=⟨λi=>if h:i<c then(f i h).choose else(none,[],0),λi h=>by simp only[h,dite_true];exact(f i h).choose_spec⟩;obtain⟨V,y⟩:=I;have s:c<=Rows.uptoBulk d/\∀i,i<c->Rows.uptoBulk (D i)<=Rows.uptoBulk d:=by
  rw[(aeX P).1];exact om
 refine⟨some a,(List.range c).map λi=>(V i).2.1,cap,by simpa using z,by simpa using s.1,λrs l=>?_,λk M x=>?_⟩
 .obtain⟨i,C,rfl⟩:=acp.1 l;have g:=ado.1 C;exact⟨Zz (y i g).2.1 (s.2 i g),(y i g).2.2.2⟩
 rw[adZ,aaf]at x;obtain⟨j,W,rfl⟩:=ZX.1 x;obtain⟨t,rfl⟩:=ZL.1 W;simp only[aee]at t;simp only[ad5,Function.comp];have v:=(y 0 oM).1;obtain⟨b,o,J⟩:=a;obtain rfl:J=none:=qC v;obtain⟨N,_,O,_⟩:=y k t;rw[mr]at N;exact⟨aD b o,(V k).1,(V k).2.2,rfl,rfl,bX v,by rw[aao];exact N,λX p Y=>(by
  obtain⟨Z,rr,e⟩:=List.exists_cons_of_ne_nil X;obtain⟨a',q1,_,q3,_⟩:=O 0 Z (by rw[e];rfl);rw[Y]at q1;obtain rfl:=ZO q1;exact q3),O⟩
def Gf{d:DataW H}{ps:List MemPlace}(h:DataW.trod enc prog w base sp hd fuel 22 cs=some (d,ps)):
 ∃(A:Option Es)(ops:List Sop)(cap:Nat),cs=[.slice A ops cap]/\ops<=Rows.uptoBulk d/\T.OpsL w A ops/\∀s,s∈ops->s.ls<=Rows.uptoBulk d/\∀rs,rs∈s.ls->rs<=Rows.uptoBulk d/\∀r,r∈rs->U3 r:=by
 rcases open_slice underlying22 h with⟨K,_⟩|⟨a,e,cap,m,n,D,Pl,O,_,hl,hm,P,Q,R⟩
 .exact⟨none,[],0,K,sM,λi s p=>by simp at p,λs p=>by simp at p⟩
 have t:∀i,i<e->∃q:Option Es×Nat×Sop,(∀c u,([iI q.2.2.kd,iI q.2.2.a,iI q.2.2.op,iI q.2.2.md,iU q.2.2.x,iU q.2.2.y,iU q.2.2.z,.slice q.1 q.2.2.ls.length q.2.1]:List Aq)[c]?=some u->w ((a.add (i*8)).add c)=some u)/\
  q.2.2.ls.length<=Rows.uptoBulk (D i)/\(∀rs,rs∈q.2.2.ls->rs<=Rows.uptoBulk (D i)/\∀r,r∈rs->U3 r)/\lA w w q.1 5 (q.2.2.ls.map (·.map lrC)):=λi hil=>by
  have S:i<m:=by rw[P];split<;>omega
  obtain⟨U,f,ht⟩:=R i S;rw[nj]at f;obtain⟨_,v,W⟩:=adi f;rw[<-nj]at v;obtain⟨ys,n',_,E,_,X,L⟩:=ab6 underlying31 ht;rw[nj]at v
  match U,v with
  |[c0,c1,c2,c3,c4,c5,c6,c7],_=>
   match ys,X with
   |[y0,y1,y2,y3],_=>
    have f0:=L 0 {name:= "Kind",type:=3,offset:=0,embedded:=false,tag:= "",pkgPath:= "",byteOffset:=0} rfl;have f1:=L 1 {name:= "A",type:=3,offset:=1,embedded:=false,tag:= "",pkgPath:= "",byteOffset:=8} rfl;have f2:=L 2 {name:= "R",type:=28,offset:=2,embedded:=false,tag:= "",pkgPath:= "",byteOffset:=16} rfl;have f3:=L 3 {name:= "L",type:=29,offset:=7,embedded:=false,tag:= "",pkgPath:= "",byteOffset:=56} rfl;simp only[mg,ue,EC,acf,abB,abA,ace,ZE,ZI]at f0 f1 f2 f3;obtain⟨zs,n2,_,_,_,Y,F⟩:=ab6 underlying28 f2
    match zs,Y with
    |[z0,z1,z2,z3,z4],_=>
     have g0:=F 0 {name:= "Op",type:=3,offset:=0,embedded:=false,tag:= "",pkgPath:= "",byteOffset:=0} rfl;have g1:=F 1 {name:= "Mode",type:=3,offset:=1,embedded:=false,tag:= "",pkgPath:= "",byteOffset:=8} rfl;have g2:=F 2 {name:= "A",type:=26,offset:=2,embedded:=false,tag:= "",pkgPath:= "",byteOffset:=16} rfl;have g3:=F 3 {name:= "B",type:=26,offset:=3,embedded:=false,tag:= "",pkgPath:= "",byteOffset:=24} rfl;have g4:=F 4 {name:= "C",type:=26,offset:=4,embedded:=false,tag:= "",pkgPath:= "",byteOffset:=32} rfl;simp only[mg,tZ,acf,abB,abA,ace,ZE,ZI]at g0 g1 g2 g3 g4;obtain⟨kd,M,_,w0⟩:=aaI underlying3 f0;obtain⟨av,e1,_,w1⟩:=aaI underlying3 f1;obtain⟨op,e2,_,w2⟩:=aaI underlying3 g0;obtain⟨md,e3,_,w3⟩:=aaI underlying3 g1;obtain⟨x,e4,_,w4⟩:=aaI underlying26 g2;obtain⟨y,e5,_,w5⟩:=aaI underlying26 g3;obtain⟨z,e6,_,w6⟩:=aaI underlying26 g4;simp only[abd,and_true]at M e1 e2 e3 e4 e5 e6;subst M e1 e2 e3 e4 e5 e6;obtain⟨x,rfl,hx⟩:=dJ w4;obtain⟨y,rfl,hy⟩:=dJ w5;obtain⟨z,rfl,hz⟩:=dJ w6;obtain⟨d3,p3⟩:=y3;obtain⟨A3,ls,G,rfl,Z,I,aa⟩:=zK f3;have hD:Rows.uptoBulk d3<=Rows.uptoBulk (D i):=by
      rw[(aeX E).1];simp only[Rows.uptoBulk];have:=qF (d:=d3) (l:=[y0,y1,y2,(d3,p3)].map (·.1)) sM;omega
     refine⟨(A3,G,⟨kd,av,op,md,x,y,z,ls⟩),λc u N=>?_,Zz Z hD,λrs J=>⟨Zz (I rs J).1 hD,(I rs J).2⟩,aa⟩;have g:c<8:=(ZL.1 N).1;have h:=W c g;rw[h];rw[<-N]
 have ab:∃V:Nat->Option Es×Nat×Sop,∀i,i<e->(∀c u,([iI (V i).2.2.kd,iI (V i).2.2.a,iI (V i).2.2.op,iI (V i).2.2.md,iU (V i).2.2.x,iU (V i).2.2.y,iU (V i).2.2.z,.slice (V i).1 (V i).2.2.ls.length (V i).2.1]:List Aq)[c]?=some u->w ((a.add (i*8)).add c)=some u)/\
  (V i).2.2.ls.length<=Rows.uptoBulk (D i)/\(∀rs,rs∈(V i).2.2.ls->rs<=Rows.uptoBulk (D i)/\∀r,r∈rs->U3 r)/\lA w w (V i).1 5 ((V i).2.2.ls.map (·.map lrC)):=
  ⟨λi=>if h:i<e then(t i h).choose else(none,0,⟨0,0,0,0,0,0,0,[]⟩),λi h=>by simp only[h,dite_true];exact(t i h).choose_spec⟩
 obtain⟨V,hV⟩:=ab;have B:e<=Rows.uptoBulk d/\∀i,i<e->Rows.uptoBulk (D i)<=Rows.uptoBulk d:=by
  rw[(aeX Q).1];exact om
 refine⟨some a,(List.range e).map λi=>(V i).2.2,cap,by simpa using O,by simpa using B.1,λk s p=>?_,λs p=>?_⟩
 .rw[aaf]at p;obtain⟨j,hj,rfl⟩:=ZX.1 p;obtain⟨g,rfl⟩:=ZL.1 hj;simp only[aee]at g;simp only[ad5];have K:=(hV 0 oM).1 0 _ rfl;have M:(a.add (0*8)).add 0=a:=rfl;rw[M]at K;obtain⟨b,o,spt⟩:=a;obtain rfl:spt=none:=qC K;obtain⟨h1,_,_,h4⟩:=hV k g;have f:∀c u,([iI (V k).2.2.kd,iI (V k).2.2.a,iI (V k).2.2.op,iI (V k).2.2.md,iU (V k).2.2.x,iU (V k).2.2.y,iU (V k).2.2.z,.slice (V k).1 (V k).2.2.ls.length (V k).2.1]:List Aq)[c]?=some u->w (aD b (o+k*8+c))=some u:=λc u N=>by
   have:=h1 c u N;rw[mr,mr]at this;exact this
  exact⟨b,o,(V k).1,(V k).2.1,rfl,⟨f 0 _ rfl,f 1 _ rfl,f 2 _ rfl,f 3 _ rfl,f 4 _ rfl,f 5 _ rfl,f 6 _ rfl,f 7 _ rfl,h4.lists⟩,h4⟩
 obtain⟨i,R,rfl⟩:=acp.1 p;have C:=ado.1 R;obtain⟨_,h2,h3,_⟩:=hV i C;exact⟨Zz h2 (B.2 i C),λrs J=>⟨Zz (h3 rs J).1 (B.2 i C),(h3 rs J).2⟩⟩
end
end
namespace T
open Go.Conc Go.ConcN
variable{P:E2}
def vC:∀(n1 n2:Nat)(m m1 c:Machine),runN P n1 m=.next m1->runN P n2 m=.next c->(∀x,step P m1≠.next x)->(∀x,step P c≠.next x)->m1=c
 |0,0,m,m1,c,a,b,_,_=>by
  simp only[runN,ad0]at a b;rw[<-a,<-b]
 |0,n2+1,m,m1,c,a,b,e,_=>by
  simp only[runN,ad0]at a b;subst a;cases d:step P m with
  |next x=>exact absurd d (e x)
  |_=>rw[d]at b;cases b
 |n1+1,0,m,m1,c,a,b,_,f=>by
  simp only[runN,ad0]at a b;subst b;cases d:step P m with
  |next x=>exact absurd d (f x)
  |_=>rw[d]at a;cases a
 |n1+1,n2+1,m,m1,c,a,b,e,f=>by
  simp only[runN]at a b;cases d:step P m with
  |next x=>
   rw[d]at a b;exact vC n1 n2 x m1 c a b e f
  |_=>rw[d]at a;cases a
def Ba(x:Aq)(w:AK):∀m,step P (lone (c0.finish x) [] w)≠.next m:=by
 intro m h;obtain⟨o,b,es,a⟩:=oi (P:=P) (m:=mdS 0 (λ_=>False)) (c:=c0) (cs:=[]) (gl':=G (c0.finish x) []) (g:=G (c0.finish x) []) (.inl ⟨x,trivial,rfl,rfl⟩) w;rw[ac4 (by show(KC P true (G (c0.finish x) []) w).bare=_;rw[a];rfl)]at h;cases h
def Ha{f:FuncId}{args:Array Aq}{w:AK}{x y:Aq}{R k:Ending->AK->Prop}(h:Bf P f args w R)(o:Bf P f args w k)(d:∀e v,R e v->e=.returned x)(i:∀e v,k e v->e=.returned y):x=y:=by
 have l:∀{R:Ending->AK->Prop}{x:Aq},Bf P f args w R->(∀e v,R e v->e=.returned x)->∃n v,runN P n (lone (Frame.enter P f args .normal) [c0] w)=.next (lone (c0.finish x) [] v):=by
  intro R x h d;obtain⟨e,w',fr,j,a,_,b⟩:=h [c0];obtain rfl:=d e w' j;have p:Steps P (lone (Frame.enter P f args .normal) [c0] w) (lone fr [c0] w'):=a;obtain⟨n,q⟩:=p.trans (.one (ab9 (cs:=[]) (c:=c0) b));exact⟨n,_,q⟩
 obtain⟨n,v,j⟩:=l h d;obtain⟨r,v',s⟩:=l o i;have:=vC n r _ _ _ j s (Ba x v) (Ba y v');have:=aal (λm:Machine=>(m.gs[0]?).map λg=>g.frame.tmps) this;simpa[lone,c0,Frame.finish]using this
open Classical in
def ans(r:LR):Nat×Nat×Bool:=if U64 r.a/\U64 r.b/\U64 r.c then doF r.o r.m r.a r.b r.c else(0,0,false)
def LR.o_lt(r:LR):r.o<256:=by unfold LR.o;omega
def LR.m_lt(r:LR):r.m<256:=by unfold LR.m;omega
def ans_of{r:LR}(h:U64 r.a/\U64 r.b/\U64 r.c):ans r=doF r.o r.m r.a r.b r.c:=ZC h
def tie{W:AK}(d:aT W){r:LR}(h:U64 r.a/\U64 r.b/\U64 r.c):(∀W,Bf prog 35 #[eV r.o r.m r.a r.b r.c] W (ah (ans r).1 (ans r).2.1 (ans r).2.2 W))/\(ans r).2.1<256:=by
 obtain⟨f,g,i,j,k,l⟩:=rm (o:=r.o) (m:=r.m) (LR.o_lt r) h.1 h.2.1 h.2.2;rw[ans_of h];have n:=uE (LR.o_lt r) (LR.m_lt r) h.1 h.2.1 h.2.2 W d;have:=Ha (j W d) n (λe v h=>h.1) (λe v h=>h.1);simp[nE]at this;obtain⟨e1,e2,p⟩:=this;rw[<-(Int.ofNat.inj e1:f=_),<-(Int.ofNat.inj e2:g=_),<-p];exact⟨k,l⟩
end T
section
open Go.WideShapes Go.ChangeShapes Go.ChangeAt
def J7:prog.globalNamed "softfloat/soft.table"=some 0:=by kernel_rfl
def HP:(prog.globals[0]?).map (·.type)=some 88:=by kernel_rfl
def Ei:List (String×DataW Unit):=[("softfloat/soft.table",Rows.laid_softfloat_soft_table)]
def uf:prog.cellsOf 87=2:=by kernel_rfl
def ED:prog.cellsOf 57=1:=by kernel_rfl
def KG:prog.cellsOf 3=1:=by kernel_rfl
def jL{w:AK}{base:Nat}{s:Nat->Bool}{fuel n:Nat}{cs:List Aq}{q:List MemPlace}{b:UInt8}{r:List UInt8}{f0:FuncId}
 (a:((List.range prog.funcs.size).filter λf=>(prog.funcs[f]?).any (·.name.toUTF8.data.toList==b::r))=[f0])
 (h:DataW.trod (funcToken prog) prog w base s true fuel 87 cs=some (.agg [.lit (.int .i64 n),.held (b::r)],q)):cs=[iI n,.func (.func f0) #[] #[]]:=by
 obtain⟨t,m,_,g,i,e,j⟩:=ab6 underlying87 h;rw[uf]at i
 match cs,i with
 |[c0,C],_=>
  match t,e with
  |[u,x],_=>
   have c:=j 0 {name:= "operands",type:=3,offset:=0,embedded:=false,tag:= "",pkgPath:= "softfloat/soft",byteOffset:=0} rfl;have d:=j 1 {name:= "do",type:=57,offset:=1,embedded:=false,tag:= "",pkgPath:= "softfloat/soft",byteOffset:=8} rfl;simp only[KG,ED,acf,abB,abA,ace,ZE,ZI]at c d;simp only[abF,adT,adH,adY,abd,and_true]at g;obtain⟨⟨k,l⟩,_⟩:=g;obtain⟨y,z⟩:=u;obtain⟨A,B⟩:=x;simp only at k l;subst k l;obtain⟨v,o,p,_⟩:=aaI underlying3 c;obtain rfl:=func_of_trod underlying57 a d;simp only[abd,and_true]at o;subst o;simp only[abF,DataW.lit.injEq,Lit.int.injEq,true_and]at p;rw[p.1]
def S5:((List.range prog.funcs.size).filter λf=>(prog.funcs[f]?).any (·.name.toUTF8.data.toList==[115,111,102,116,102,108,111,97,116,47,115,111,102,116,46,97,100,100]))=[130]:=by kernel_rfl
def S4:((List.range prog.funcs.size).filter λf=>(prog.funcs[f]?).any (·.name.toUTF8.data.toList==[115,111,102,116,102,108,111,97,116,47,115,111,102,116,46,115,117,98]))=[131]:=by kernel_rfl
def S3:((List.range prog.funcs.size).filter λf=>(prog.funcs[f]?).any (·.name.toUTF8.data.toList==[115,111,102,116,102,108,111,97,116,47,115,111,102,116,46,109,117,108]))=[132]:=by kernel_rfl
def SZ:((List.range prog.funcs.size).filter λf=>(prog.funcs[f]?).any (·.name.toUTF8.data.toList==[115,111,102,116,102,108,111,97,116,47,115,111,102,116,46,100,105,118]))=[133]:=by kernel_rfl
def SY:((List.range prog.funcs.size).filter λf=>(prog.funcs[f]?).any (·.name.toUTF8.data.toList==[115,111,102,116,102,108,111,97,116,47,115,111,102,116,46,102,109,97]))=[134]:=by kernel_rfl
def SX:((List.range prog.funcs.size).filter λf=>(prog.funcs[f]?).any (·.name.toUTF8.data.toList==[115,111,102,116,102,108,111,97,116,47,115,111,102,116,46,115,113,114,116]))=[135]:=by kernel_rfl
def SV:((List.range prog.funcs.size).filter λf=>(prog.funcs[f]?).any (·.name.toUTF8.data.toList==[115,111,102,116,102,108,111,97,116,47,115,111,102,116,46,114,115,113,114,116]))=[136]:=by kernel_rfl
def SU:((List.range prog.funcs.size).filter λf=>(prog.funcs[f]?).any (·.name.toUTF8.data.toList==[115,111,102,116,102,108,111,97,116,47,115,111,102,116,46,99,98,114,116]))=[137]:=by kernel_rfl
def SS:((List.range prog.funcs.size).filter λf=>(prog.funcs[f]?).any (·.name.toUTF8.data.toList==[115,111,102,116,102,108,111,97,116,47,115,111,102,116,46,104,121,112,111,116]))=[138]:=by kernel_rfl
def Ps:((List.range prog.funcs.size).filter λf=>(prog.funcs[f]?).any (·.name.toUTF8.data.toList==[115,111,102,116,102,108,111,97,116,47,115,111,102,116,46,116,97,98,108,101,36,49]))=[139]:=by kernel_rfl
def Mv{W:AK}(h:laidMetH prog Ei W):aT W:=by
 obtain⟨g,t,cs,fuel,p,s,H,I,J⟩:=h.funcs (aag.2 rfl);obtain rfl:=ZO (J7.symm.trans s);obtain rfl:=ZO (HP.symm.trans H);have l:DataW.trod (funcToken prog) prog W 0 (λ_=>true) true fuel 88 cs.toList=some (.agg [.agg [.lit (.int .i64 0),.nil],.agg [.lit (.int .i64 2),.held [115,111,102,116,102,108,111,97,116,47,115,111,102,116,46,97,100,100]],.agg [.lit (.int .i64 2),.held [115,111,102,116,102,108,111,97,116,47,115,111,102,116,46,115,117,98]],.agg [.lit (.int .i64 2),.held [115,111,102,116,102,108,111,97,116,47,115,111,102,116,46,109,117,108]],.agg [.lit (.int .i64 2),.held [115,111,102,116,102,108,111,97,116,47,115,111,102,116,46,100,105,118]],.agg [.lit (.int .i64 3),.held [115,111,102,116,102,108,111,97,116,47,115,111,102,116,46,102,109,97]],.agg [.lit (.int .i64 1),.held [115,111,102,116,102,108,111,97,116,47,115,111,102,116,46,115,113,114,116]],.agg [.lit (.int .i64 1),.held [115,111,102,116,102,108,111,97,116,47,115,111,102,116,46,114,115,113,114,116]],.agg [.lit (.int .i64 1),.held [115,111,102,116,102,108,111,97,116,47,115,111,102,116,46,99,98,114,116]],.agg [.lit (.int .i64 2),.held [115,111,102,116,102,108,111,97,116,47,115,111,102,116,46,104,121,112,111,116]],.agg [.lit (.int .i64 0),.held [115,111,102,116,102,108,111,97,116,47,115,111,102,116,46,116,97,98,108,101,36,49]]],p):=J;obtain⟨K,m,_,u,U,o,b⟩:=DataW.trod_array underlying88 l;simp only[abF,adT]at u;have f:=u.1;have v:∀i,W (aD 0 i)=cs.toList[i]?:=λi=>by rw[aar];exact World.var?_cell s I i
 rw[uf]at b;have a:∀(i n:Nat)(f0:FuncId),(cs.toList.drop (i*2)).take 2=[iI n,.func (.func f0) #[] #[]]->W (aD 0 (i*2))=iI n/\W (aD 0 (i*2+1))=some (.func (.func f0) #[] #[]):=λi n f0 j=>by
  have w:=aal (·[0]?) j;have x:=aal (·[1]?) j;simp only[aau,acC]at w x;rw[v,v];exact⟨by simpa using w,by simpa using x⟩
 match K,o with
 |[V,L,M,N,O,P,Q,R,S,T,q],_=>
  simp only[adH,adY,abd,and_true]at f;obtain⟨_,y,z,A,B,C,D,E,F,G,k⟩:=f;intro op X Y;have r:op=1\/op=2\/op=3\/op=4\/op=5\/op=6\/op=7\/op=8\/op=9\/op=10:=oM;rcases r with rfl|rfl|rfl|rfl|rfl|rfl|rfl|rfl|rfl|rfl
  .have e:=b 1 dC;obtain⟨c,d⟩:=L;simp only at y;subst y;exact a 1 _ _ (jL S5 e)
  .have e:=b 2 dC;obtain⟨c,d⟩:=M;simp only at z;subst z;exact a 2 _ _ (jL S4 e)
  .have e:=b 3 dC;obtain⟨c,d⟩:=N;simp only at A;subst A;exact a 3 _ _ (jL S3 e)
  .have e:=b 4 dC;obtain⟨c,d⟩:=O;simp only at B;subst B;exact a 4 _ _ (jL SZ e)
  .have e:=b 5 dC;obtain⟨c,d⟩:=P;simp only at C;subst C;exact a 5 _ _ (jL SY e)
  .have e:=b 6 dC;obtain⟨c,d⟩:=Q;simp only at D;subst D;exact a 6 _ _ (jL SX e)
  .have e:=b 7 dC;obtain⟨c,d⟩:=R;simp only at E;subst E;exact a 7 _ _ (jL SV e)
  .have e:=b 8 dC;obtain⟨c,d⟩:=S;simp only at F;subst F;exact a 8 _ _ (jL SU e)
  .have e:=b 9 dC;obtain⟨c,d⟩:=T;simp only at G;subst G;exact a 9 _ _ (jL SS e)
  have e:=b 10 dC;obtain⟨c,d⟩:=q;simp only at k;subst k;exact a 10 _ _ (jL Ps e)
def Ko(a:Os)(args:Array Aq):laidMetH prog Ei ((World.doorLaid prog 600 a).forCall (λ_ _=>0) ⟨#[],args,[]⟩).memory:=
 laidMetH_of_parts3 (fuel:=8) (laidMet_of_run' 8 (by kernel_rfl) (by kernel_rfl)) (by kernel_rfl) (by kernel_rfl)
def rC(Lk:Looks){p:Pinned}{s:OpenSpec}{c:OpenClaim}(kinds:List LaidKind)(a:Bool)(b:Bool×String)(d:Bool)
 (k:c.holds p s)(l:c.wfByText s)(e:c.laidByTextAt Lk p kinds a)
 (g:c.start=.entering)(i:c.noBlocks=false/\c.again=false)(m:p.checked.prog.mainIs=some (b.1,b.2.toList))(n:(!b.1&&b.2.isEmpty&&!d)=false)
 (o:∀f fn,p.checked.prog.funcNamed c.func=some f->p.checked.prog.funcs[f]?=some fn->d=p.checked.prog.looks []/\∀(j:Nat)t,fn.params[j]?=some t->p.checked.prog.wantsStandIn t=false)
 (q:true=c.goesBy p.checked.prog):
 Claim7.holds p (.plain s) {stood:={row:=c,standIns:=[],harness:=b,looks:=d},kinds:=[],alts:=[],goes:=true,laidByText:=true,laidKinds:=kinds,laidTests:=a,laidLooks:=Lk}:=by
 have u:∀r:OpenClaim,Claim7.isSixth {stood:={row:=r,standIns:=[],harness:=b,looks:=d},kinds:=[]}=false:=λr=>by simpa[Claim7.isSixth]using n
 have h:=Claim7.tied_new_at Lk kinds a (Claim7.new_of_sixth k b d g i m (u c) o) l;exact⟨h,(λD v=>by cases v),e,(λh=>by cases h),q⟩
end
section
open Go.WideShapes Go.ChangeShapes
def rz{P:E2}{w:AK}{base:Nat}{a:Nat->Bool}{fuel:Nat}{t:E1}{ps rs:Array E1}{b:Bool}{v:Aq}{q:List MemPlace}(c:P.underlying t=some (.func ps rs b))
 (h:DataW.trod (funcToken P) P w base a true fuel t [v]=some (.nil,q)):v=.nilFunc:=by
 cases fuel with
 |zero=>simp[DataW.trod]at h
 |succ n=>cases v<;>simp[DataW.trod,c]at h⊢
def VB:(((begin prog (λ_ _=>0) default).world.heap[0]?).bind Obj.row?).map (λp=>(p.1.size,p.2))=some (22,E7):=by kernel_rfl
def Av:0<prog.globals.size:=by decide+kernel
def xk{W:AK}(h:laidMetH prog Ei W)(x:W.ShapedOpen prog):ga W:=by
 have O:=Mv h;obtain⟨⟨l,t0⟩,P,f⟩:=ZX.1 VB;simp only[abF]at f;obtain⟨f,rfl⟩:=f;obtain⟨cs,y,Q,_⟩:=x.1 0 l E7 Av P;obtain⟨g,t,e,fuel,p,G,R,w,S⟩:=h.funcs (aag.2 rfl);obtain rfl:=ZO (J7.symm.trans G);obtain rfl:=ZO (HP.symm.trans R);obtain rfl:e=cs:=by
  unfold World.var? at w;rw[G]at w;simp only[acy,y,Zt]at w;exact w.symm
 obtain⟨r,z⟩:∃r,DataW.trod (funcToken prog) prog W 0 (λ_=>true) true fuel 88 e.toList=some (.agg (.agg [.lit (.int .i64 0),.nil]::r),p):=⟨_,S⟩;obtain⟨H,m,_,A,hl,n,I⟩:=DataW.trod_array underlying88 z;simp only[abF,adT]at A;rw[uf]at I;have B:e.size=22:=Q.trans f;have C:=I 0 dC;obtain⟨c0,J,k⟩:∃c0 J,(e.toList.drop (0*2)).take 2=[c0,J]:=by
  have D:(((e.toList.drop (0*2)).take 2):Nat)=2:=by simp[B]
  match h:(e.toList.drop (0*2)).take 2,D with
  |[a,b],_=>exact⟨a,b,rfl⟩
 rw[k]at C
 match H,n with
 |T::H,n=>
  simp only[adH,abd]at A;obtain⟨ya,yb⟩:=T;simp only[ZE]at C;obtain⟨U,m2,_,o,_,E,K⟩:=ab6 underlying87 C
  match U,E with
  |[V,X],_=>
   have q:=K 0 {name:= "operands",type:=3,offset:=0,embedded:=false,tag:= "",pkgPath:= "softfloat/soft",byteOffset:=0} rfl;have s:=K 1 {name:= "do",type:=57,offset:=1,embedded:=false,tag:= "",pkgPath:= "softfloat/soft",byteOffset:=8} rfl;simp only[KG,ED,acf,abB,abA,ace,ZE,ZI]at q s;obtain⟨Y,Z⟩:=V;obtain⟨aa,ab⟩:=X;have j:=A.1.1;simp only[abF]at o;simp only at j;rw[o.1]at j;simp only[adH,adY,adT,abd,and_true]at j;obtain⟨rfl,rfl⟩:=j;obtain⟨v,L,u,_⟩:=aaI underlying3 q;obtain rfl:=rz underlying57 s;simp only[abd,and_true]at L;subst L;simp only[abF,DataW.lit.injEq,Lit.int.injEq,true_and]at u;have F:=u.1;have k0:e[0]?=iI 0:=by
    have:=aal (·[0]?) k;simp only[aau,acC]at this;rw[<-aar];simpa[F]using this
   have k1:e[1]?=some .nilFunc:=by
    have:=aal (·[1]?) k;simp only[aau,acC]at this;rw[<-aar];simpa using this
   (have M:∀i,W (aD 0 i)=e[i]?:=λi=>by simp[World.cell?,y]);refine⟨(0,0),y.trans (aal (λc=>some (Obj.cells c E7 (0,0))) ?_)⟩;apply acD;intro i;by_cases N:i<22
   ·(have d:∀op,1<=op->op<=10->e[op*2]?=iI (cU op)/\e[op*2+1]?=some (.func (.func (ki op)) #[] #[]):=λop a b=>by rw[<-M,<-M];exact O op a b);rcases(show i=0\/i=1\/i=2\/i=3\/i=4\/i=5\/i=6\/i=7\/i=8\/i=9\/i=10\/i=11\/i=12\/i=13\/i=14\/i=15\/i=16\/i=17\/i=18\/i=19\/i=20\/i=21 by omega)with rfl|rfl|rfl|rfl|rfl|rfl|rfl|rfl|rfl|rfl|rfl|rfl|rfl|rfl|rfl|rfl|rfl|rfl|rfl|rfl|rfl|rfl
    .exact k0
    .exact k1
    .exact(d 1 dC dC).1
    .exact(d 1 dC dC).2
    .exact(d 2 dC dC).1
    .exact(d 2 dC dC).2
    .exact(d 3 dC dC).1
    .exact(d 3 dC dC).2
    .exact(d 4 dC dC).1
    .exact(d 4 dC dC).2
    .exact(d 5 dC dC).1
    .exact(d 5 dC dC).2
    .exact(d 6 dC dC).1
    .exact(d 6 dC dC).2
    .exact(d 7 dC dC).1
    .exact(d 7 dC dC).2
    .exact(d 8 dC dC).1
    .exact(d 8 dC dC).2
    .exact(d 9 dC dC).1
    .exact(d 9 dC dC).2
    .exact(d 10 dC dC).1
    exact(d 10 dC dC).2
   rw[abh oM,abh (by simp[yO];omega)]
end
namespace T
open Go.Conc Go.ConcN
def Ln(Post:Aq->AK->Prop)(m:Machine)(t:Trace):Prop:=
 ∃(b:Array Ar)(a:Ar)(w:AK)(sl:Option (Nat×Nat))(q:Nat->Nat)(B:Nat)(c:Loc->Prop),m=crowd b w sl/\Fra prog c B b a t q/\a.status=.running/\
  ∀d,∃v,KC prog true a (w.at d)=.ended (.done v) (w.at d) #[]/\Post v (w.at d)
def run_to_end{Post:Aq->AK->Prop}{g:Ar}{W:AK}(h:Way (Ln Post) (λ_=>False) g W):
 ∃N b o w' f,runNT prog (N+1) (solo g W) #[]=(.ended o w',f)/\runN prog N (solo g W)=.next b/\step prog b=.ended o w'/\Go.Conc.Good prog Post b o w' f:=by
 obtain⟨i,m',t1,k,m,a,w,sl,q,B,p,rfl,j,c,e⟩:=h W (.refl W) #[g] #[] (λ_=>0) none ⟨rfl,leavers_one _ g,past_nil.mono (Z7 _)⟩;obtain⟨l,b,o,w',f,r,s,t,u⟩:=beside_ends (P:=prog) (Shun:=p) (B:=B) (D:=λ_ _ _=>False) (Post:=Post) (sl:=sl) (n:=0) (λ_ _ _ h=>h.elim) j.zero j.leave j.past (λw₁ x=>by
  obtain⟨d,rfl⟩:=x;obtain⟨v,e1,e2⟩:=e d;exact⟨c,v,#[],e1,sM,e2⟩)
 refine⟨i+l,b,o,w',f,?_,?_,t,u⟩
 .show runNT prog (i+l+1) (crowd #[g] W none) #[]=_;rw[abY,fj _ _ _ _ _ _ _ k];exact r
 have e1:runN prog i (solo g W)=.next (crowd m w sl):=by
  rw[<-runNT_fst _ _ _ #[]];show(runNT prog i (crowd #[g] W none) #[]).1=_;rw[k]
 rw[runN_add,e1];exact s
end T
section
open Go.WideShapes Go.ChangeShapes Go.ChangeAt Go.Conc
variable{W:AK}
def oa{p:Pinned}{s:OpenSpec}{c:OpenClaim}(f:FuncId)(fn:Func)
 (hn:c.program=p.name)(hs:c.sum=p.sum)(A:c.spec=s.name)
 (d:c.start=.entering)(g:c.outside=[])(B:c.inits=[])(C:c.under=none)(D:c.initsInPlace=[]/\c.initsUnfollowed=false/\c.initsRecurse=false/\c.initsNamed=[]/\c.initsPassed=[])(r:c.noBlocks=false)(E:c.leaving)(m:c.followed=none)(t:c.narrowed=s.cond.isSome)(j:c.still=false)
 (G:p.checked.prog.funcNamed c.func=f)(hf:p.checked.prog.funcs[f]?=fn)
 (i:joinedFacts p.checked.prog f fn s.bare c)
 (o:fn.isInstance p.checked.prog c.origin c.targs)(q:fn.isWrapper p.checked.prog c.wrapper c.mainSum)
 (h:∀l:Os,l.Started->∀(H:Type)(e:E1×Aq->H),(∀a b,e a=e b->a=b)->∀F:Stop.Interp,
  ReturnsInLeavingWide c.assume p.checked l f .any (c.pre e p.checked.prog fn s) ((s.at F).post e p.checked.prog fn c.apart c.fresh c.handsOn c.again)):c.holds p s:=by
 simp only[joinedFacts,aab,abH,ZY,acb,ZU]at i;obtain⟨⟨⟨⟨⟨⟨⟨⟨⟨⟨⟨⟨⟨⟨⟨⟨⟨⟨⟨⟨⟨⟨⟨⟨⟨⟨⟨⟨⟨⟨⟨k1,k2⟩,k3⟩,k4⟩,k5⟩,k6⟩,k7⟩,k8⟩,I⟩,J⟩,K⟩,L⟩,M⟩,N⟩,O⟩,P⟩,Q⟩,u⟩,R⟩,S⟩,T⟩,U⟩,V⟩,v⟩,w⟩,x⟩,y⟩,z⟩,X⟩,Y⟩,Z⟩,aa⟩:=i;have hq:∀l:Os,Stop.quiet p.checked.prog l:=λl k hk=>by rw[I]at hk;cases hk
 refine⟨k1,hn,hs,A,k2,k3,by unfold OpenClaim.startFits;rw[d];exact x,by unfold OpenClaim.startTold;rw[d];exact⟨B,C,D⟩,f,fn,G,hf,⟨k4,S⟩,(λhb=>by rw[r]at hb;cases hb),by unfold OpenClaim.namedList;rw[m];exact k5,o,q,
  k6.trans k7.symm,⟨k8.trans I.symm,by unfold Program.envWorded;rw[I];rfl,w⟩,J,K,L,M,N,⟨O,Z,aa⟩,⟨P,T⟩,⟨Q,U,X,Y⟩,⟨V,y,z,u⟩,(by rw[g,t];cases ab:c.shortTexts with|none=>simp|some _=>rw[ab]at v;cases v),λn ac=>varReadable_some (R n ac),
  ⟨_,by unfold OpenClaim.world;rw[g,d];exact WideRow.started_initial,hq _⟩,[],by unfold OpenClaim.lists;rw[m],λl st _ H e ag=>?_⟩
 have am:l.Started:=by unfold OpenClaim.world at st;rw[g,d]at st;exact st
 rw[OpenClaim.post_not_still j];unfold OpenClaim.form;rw[d,k6];intro F;have e1:c.okInput=Input.okWide:=by unfold OpenClaim.okInput;rw[r]
 have e2:c.atReturn p.checked.prog=leavingAtReturn p.checked.prog:=by unfold OpenClaim.atReturn;rw[E]
 have e3:c.always p.checked.prog []=nothingAlways:=by unfold OpenClaim.always;rw[m]
 have e4:s.post e p.checked.prog fn F c.outside c.apart c.fresh c.handsOn c.again=(s.at F).post e p.checked.prog fn c.apart c.fresh c.handsOn c.again:=by rw[g];rfl
 rw[e1,e2,e3];show ReturnsInOpen _ _ _ _ _ _ _ _ (s.post e p.checked.prog fn F c.outside c.apart c.fresh c.handsOn c.again) _ _;rw[e4];exact h l am H e ag F x
def Pm{H:Type}{e:E1×Aq->H}{nm:String}{f:Func}(w:f.params=#[22]){A:Option Es}{a cap:Nat}{ds i:List (DataW H)}{b:List MemPlace}
 (x:DataW.Whole e prog f.params.toList (rQ nm).vars false W [.slice A a cap] ds i b)(y:Rows.uptoSmall H (ds++i)):
 ∃ops:List Sop,a=ops/\(ops:Nat)<=1048576/\T.OpsL W A ops/\∀s,s∈ops->(s.ls:Nat)<=1048576/\∀rs,rs∈s.ls->(rs:Nat)<=1048576/\∀r,r∈rs->U3 r:=by
 obtain⟨p,q,j,G,rfl,z,B⟩:=x;have t:DataW.TrodAll e prog W 0 (λ_=>true) true f.params.toList (#[.slice A a cap]:Array Aq).toList ds p:=j;rw[w]at t;obtain⟨C,d0,c,rfl,fuel,D⟩:=trodAll_one t;obtain rfl:Value.slice A a cap=C:=by simpa using c
 have k:Rows.uptoBulk d0<=1048576:=by
  have h:=aec y;have:=qF (d:=d0) (l:=[d0]++i) sM;omega
 obtain⟨A',ops,g,m,E,F,n⟩:=Gf D;have u:[Value.slice A a cap]=[.slice A' ops g]:=m;simp only[abd,abC,and_true]at u;obtain⟨rfl,rfl,rfl⟩:=u;exact⟨ops,rfl,Zz E k,F,λs o=>⟨Zz (n s o).1 k,λrs v=>⟨Zz ((n s o).2 rs v).1 k,((n s o).2 rs v).2⟩⟩⟩
def Pc(k:aT W){ops:List Sop}(i:(ops:Nat)<=1048576)(h:∀s,s∈ops->(s.ls:Nat)<=1048576/\∀rs,rs∈s.ls->(rs:Nat)<=1048576/\∀r,r∈rs->U3 r):T.SayO T.ans ops:=by
 refine⟨i,λs g=>⟨(h s g).1,λrs j=>((h s g).2 rs j).1⟩,λr=>?_,λs g rs j r f=>?_,λs g rs j r f=>?_⟩
 .by_cases d:U64 r.a/\U64 r.b/\U64 r.c
  .exact(T.tie k d).2
  unfold T.ans;rw[Zr d];decide
 .have d:=((h s g).2 rs j).2 r f;have e:=T.ans_of d;refine⟨λW l=>?_,e,⟨T.LR.o_lt r,T.LR.m_lt r,d.1,d.2.1,d.2.2⟩⟩;rw[e];exact uE (T.LR.o_lt r) (T.LR.m_lt r) d.1 d.2.1 d.2.2 W l
 exact(T.tie k (((h s g).2 rs j).2 r f)).1
end
end Go.Proofs.YtldmbneckcjonaaDoor
