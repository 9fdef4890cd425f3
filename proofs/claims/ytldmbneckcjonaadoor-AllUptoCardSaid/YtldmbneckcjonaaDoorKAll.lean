/- All, where what it reads is of bulk at most 1048576: for every script the law returns true and leaves its argument as it was, on every tape, and nothing races. Condition: the table of operations is as the text of the program lays it, which the tie of the card shows. -/
import Derived.Test.YtldmbneckcjonaaDoorK13
set_option linter.defProp false
set_option linter.unusedVariables false
set_option linter.unusedSimpArgs false
set_option maxRecDepth 100000
set_option maxHeartbeats 8000000
noncomputable section
namespace Go.Proofs.YtldmbneckcjonaaDoor
open Go renaming World->AK,Value->Aq,Goroutine->Ar,Calls->Bf,undef->C0,Addr->Es,TypeId->E1,Program->E2,stepG->KC,Frame->K0,execOp->Lk,bits->Na,Event->Nc
open Go.RowKit renaming Below->Np,wrap64->Nq
open Go.Proofs.Tryd
open Go.RowKit
namespace T
open Go.Conc Go.ConcN
variable{A':Option Es}{GL:Nat->Prop}{a:Act}{cap':Nat}{l:List (Nat×Aq)}
attribute[local go_sem] pg tP
noncomputable def qG:Code:=f14.body.getD .skip
def DQ:Code:=match qG with|.seq c _=>c|_=>.skip
def DO:Code:=match qG with|.seq _ (.seq (.seq c _) _)=>c|_=>.skip
def uV:Code:=match qG with|.seq _ (.seq (.seq _ (.block _ (.loop c))) _)=>c|_=>.skip
def pk:Code:=match qG with|.seq _ (.seq _ c)=>c|_=>.skip
def vO:Code:=match uV with|.seq (.seq c _) _=>c|_=>.skip
def vM:Code:=match uV with|.seq _ (.seq (.block _ (.seq c _)) _)=>c|_=>.skip
def Hg:Code:=match uV with|.seq _ (.seq (.block _ (.seq _ c)) _)=>c|_=>.skip
def vN:Code:=match uV with|.seq _ (.seq _ c)=>c|_=>.skip
def He:qG=.seq DQ (.seq (.seq DO (.block 0 (.loop uV))) pk):=by kernel_rfl
def Ed:uV=.seq (.seq vO (.cond (.tmp 18) .skip (.exit 0))) (.seq (.block 1 (.seq vM Hg)) vN):=by kernel_rfl
def Ja:aG prog bq glC true DQ:=by kernel_rfl
def I9:aG prog bq glC true DO:=by kernel_rfl
def zM:aG prog bq glC true vO:=by kernel_rfl
def I8:aG prog bq glC true vN:=by kernel_rfl
def I7:aG prog wu glC false vM:=by kernel_rfl
def Mu:aG prog bq glC true Hg:=by kernel_rfl
def Jc:aG prog wu glC false pk:=by kernel_rfl
def l6:∃f,prog.funcs[14]?=some f:=⟨_,func14⟩
def V48(f:Nat->Aq):Array Aq:=(f 0::f 1::f 2::f 3::f 4::f 5::f 6::f 7::f 8::f 9::f 10::f 11::f 12::f 13::f 14::f 15::f 16::f 17::f 18::f 19::f 20::f 21::f 22::f 23::f 24::f 25::f 26::f 27::f 28::f 29::f 30::f 31::f 32::f 33::f 34::f 35::f 36::f 37::f 38::f 39::f 40::f 41::f 42::f 43::f 44::f 45::f 46::f 47::[]).toArray
def Tk(t:Array Aq)(h:t.size=48):∃f:Nat->Aq,t=V48 f/\∀i x,t[i]?=some x->f i=x:=
 ⟨λi=>t.getD i default,(p9 t h).trans rfl,λi x b=>by simp[aay,b]⟩
def dQ(l:List (Nat×Aq))(a:Act):Prop:=a.tmps.size=48/\a.defers=[]/\∀p,p∈l->a.tmps[p.1]?=p.2
def dQ.lit(h:dQ l a):∃f:Nat->Aq,a=⟨V48 f,[]⟩/\∀p,p∈l->f p.1=p.2:=by
 obtain⟨t,ds⟩:=a;obtain⟨b,rfl,c⟩:=h;obtain⟨f,e,d⟩:=Tk t b;exact⟨f,by rw[<-e],λp g=>d _ _ (c p g)⟩
def dQ.sub{l':List (Nat×Aq)}(h:dQ l a)(b:∀p,p∈l'->p∈l):dQ l' a:=⟨h.1,h.2.1,λp c=>h.2.2 p (b p c)⟩
def dQ.ev(h:dQ l a){k:Nat}{x:Aq}(b:(k,x)∈l):a.eval (.tmp k)=x:=by
 have:=h.2.2 _ b;simp[Act.eval,this]
def dQ.ok{m:Md}(h:dQ l a)(c:∀v,m.V v):dD m a:=⟨λv _=>c v,λd b=>by rw[h.2.1]at b;simp at b⟩
section
variable{A:Option Es}{n cap i:Nat}{a:Act}{w:AK}{ops:List Sop}{s:Sop}
def eL(A:Option Es)(n cap i:Nat):List (Nat×Aq):=[(0,.slice A n cap),(1,iI 0),(2,iI 255),(7,iI i)]
def zu(k:n<=1048576)(o:dQ (eL A n cap i) a):vO.wp prog (λe a' W=>e=.normal/\dQ ((18,.bool (decide (i<n)))::eL A n cap i) a'/\W=w) a w:=by
 suffices q:∀Q:Exit->Act->AK->Prop,(∀t,dQ ((18,.bool (decide (i<n)))::eL A n cap i) ⟨t,[]⟩->Q .normal ⟨t,[]⟩ w)->∀c,c=vO->c.wp prog Q a w from q _ (λt r=>⟨rfl,r,rfl⟩) _ rfl
 intro Q d c u;replace d:=Zp d;subst u;obtain⟨f,rfl,m⟩:=o.lit;unfold V48;simp only[eL,aaj,ZG,aaS,aa3,and_true]at m;obtain⟨v,x,y,z⟩:=m;rw[v,x,y,z];by_cases b:i<n
 .have B:Few i:=by unfold Few;omega
  have g:(i:Int)<n:=oM;have h:decide (i<n):=by simp[b]
  rw[h]at d;clear k b h;conv=>arg 2;whnf
  go_wp2
  refine d.out _ ⟨rfl,rfl,λp j=>?_⟩;simp only[eL,ZM,ZG,aaV]at j;rcases j with rfl|rfl|rfl|rfl|rfl<;>rfl
 have g:¬(i:Int)<n:=oM;have h:decide (i<n)=false:=by simp[b]
 rw[h]at d;clear k b h;conv=>arg 2;whnf
 go_wp2
 refine d.out _ ⟨rfl,rfl,λp j=>?_⟩;simp only[eL,ZM,ZG,aaV]at j;rcases j with rfl|rfl|rfl|rfl|rfl<;>rfl
def IM(v:i<1048576)(h:dQ (eL A n cap i) a):vN.wp prog (λe a' W=>e=.normal/\dQ (eL A n cap (i+1)) a'/\W=w) a w:=by
 suffices j:∀Q:Exit->Act->AK->Prop,(∀t,dQ (eL A n cap (i+1)) ⟨t,[]⟩->Q .normal ⟨t,[]⟩ w)->∀c,c=vN->c.wp prog Q a w from j _ (λt k=>⟨rfl,k,rfl⟩) _ rfl
 intro Q b c m;replace b:=Zp b;subst m;obtain⟨f,rfl,d⟩:=h.lit;unfold V48;simp only[eL,aaj,ZG,aaS,aa3,and_true]at d;obtain⟨o,q,r,u⟩:=d;rw[o,q,r,u];conv=>arg 2;whnf
 go_wp2
 refine b.out _ ⟨rfl,rfl,λp g=>?_⟩;simp only[eL,ZM,ZG,aaV]at g;rcases g with rfl|rfl|rfl|rfl<;>rfl
def IY(h:dQ [(0,.slice A n cap),(1,iI 0),(2,iI 255)] a):DQ.wp prog (λe a' W=>e=.normal/\dQ [(0,.slice A n cap),(1,iI 0),(2,iI 255)] a'/\W=w) a w:=by
 suffices j:∀Q:Exit->Act->AK->Prop,(∀t,dQ [(0,.slice A n cap),(1,iI 0),(2,iI 255)] ⟨t,[]⟩->Q .normal ⟨t,[]⟩ w)->∀c,c=DQ->c.wp prog Q a w from j _ (λt k=>⟨rfl,k,rfl⟩) _ rfl
 intro Q b c m;replace b:=Zp b;subst m;obtain⟨f,rfl,d⟩:=h.lit;unfold V48;simp only[aaj,ZG,aaS,aa3,and_true]at d;obtain⟨o,q,r⟩:=d;rw[o,q,r];conv=>arg 2;whnf
 go_wp2
 refine b.out _ ⟨rfl,rfl,λp g=>?_⟩;simp only[ZM,ZG,aaV]at g;rcases g with rfl|rfl|rfl<;>rfl
def IU(h:dQ [(0,.slice A n cap),(1,iI 0),(2,iI 255)] a):DO.wp prog (λe a' W=>e=.normal/\dQ (eL A n cap 0) a'/\W=w) a w:=by
 suffices j:∀Q:Exit->Act->AK->Prop,(∀t,dQ (eL A n cap 0) ⟨t,[]⟩->Q .normal ⟨t,[]⟩ w)->∀c,c=DO->c.wp prog Q a w from j _ (λt k=>⟨rfl,k,rfl⟩) _ rfl
 intro Q b c m;replace b:=Zp b;subst m;obtain⟨f,rfl,d⟩:=h.lit;unfold V48;simp only[aaj,ZG,aaS,aa3,and_true]at d;obtain⟨o,q,r⟩:=d;rw[o,q,r];conv=>arg 2;whnf
 go_wp2
 refine b.out _ ⟨rfl,rfl,λp g=>?_⟩;simp only[eL,ZM,ZG,aaV]at g;rcases g with rfl|rfl|rfl|rfl<;>rfl
def iS(s:Sop)(A':Option Es)(cap':Nat):Array Aq:=#[iI s.kd,iI s.a,iI s.op,iI s.md,iU s.x,iU s.y,iU s.z,.slice A' s.ls cap']
def Uz{s:Sop}:∀x,x∈iS s A' cap'->FV bq GL x:=by
 intro x b;simp only[iS,aaX,ZM,ZG,aaV]at b;rcases b with rfl|rfl|rfl|rfl|rfl|rfl|rfl|rfl<;>exact .sc rfl
def IJ(hO:Lf w A ops)(g:ops[i]?=s)(ha:dQ (eL A ops cap i) a)(b:∀x,x∈a.tmps->FV bq GL x):
 vM.wp prog (λe a' W=>e=.normal/\(dQ ((8,pT w 0)::eL A ops cap i) a'/\∀x,x∈a'.tmps->FV bq GL x)/\∃A' cap',W=w.alloc (.cells (iS s A' cap') 31 (0,0))) a w:=by
 suffices g:∀Q:Exit->Act->AK->Prop,(∀t A' cap',dQ ((8,pT w 0)::eL A ops cap i) ⟨t,[]⟩->(∀x,x∈t->FV bq GL x)->Q .normal ⟨t,[]⟩ (w.alloc (.cells (iS s A' cap') 31 (0,0))))->vM.wp prog Q a w from g _ λt A' cap' h j=>⟨rfl,⟨h,j⟩,A',cap',rfl⟩
 intro Q k;replace k:=Zp k;have hlt:(i:Int)<ops:=by have:=(ZL.1 g).1;omega
 obtain⟨f,rfl,hf⟩:=ha.lit;unfold V48 at b⊢;simp only[eL,aaj,ZG,aaS,aa3,and_true]at hf;obtain⟨h0,h,j,h7⟩:=hf;replace b:=Zp b;rw[h0,h,j,h7];obtain⟨⟨ab,ao,asp⟩,A',cap',rfl,c,d⟩:=hO i s g;simp only at c d;subst c;obtain⟨c0,c1,c2,c3,c4,c5,c6,c7,_⟩:=d;have ead:(aD ab ao:Es).add (i*8)=aD ab (ao+i*8):=by simp[Addr.add]
 conv=>arg 2;whnf
 go_wp2
 refine k.out _ A' cap' ⟨rfl,rfl,λp hp=>?_⟩ ?_
 .simp only[eL,ZM,ZG,aaV]at hp;rcases hp with rfl|rfl|rfl|rfl|rfl<;>rfl
 have b:=b.out;simp only[aaX,aaj,ZG,aaS,aa3,and_true]at b⊢;obtain⟨_,_,_,v3,v4,v5,v6,_,_,v9,m,o,q,r,u,v,y,z,B,C,D,_,_,_,_,E,F,G,H,I,J,K,L,M,N,O,P,R,S,T,U,V,X,Y,Z,aa,ac,ag⟩:=b;exact⟨.sc rfl,.sc rfl,.sc rfl,v3,v4,v5,v6,.sc rfl,.sc rfl,v9,m,o,q,r,u,v,y,z,B,C,D,.sc rfl,.sc rfl,.sc rfl,.agg Uz,E,F,G,H,I,J,K,L,M,N,O,P,R,S,T,U,V,X,Y,Z,aa,ac,ag⟩
def NH{b:Nat}{m o:Nat}(h:aT w)(B:s.md%256=m)(u:s.op%256=o)(j:gY o m s.x s.y s.z)
 (g:∀(k:Nat)(x:Aq),(iS s A' cap')[k]?=x->w (aD b k)=x)(C:dQ ((8,pT b 0)::eL A n cap i) a):
 Hg.wp prog (λe a' W=>e=.normal/\dQ (eL A n cap i) a'/\Np w w W) a w:=by
 suffices K:∀Q:Exit->Act->AK->Prop,(∀t W,dQ (eL A n cap i) ⟨t,[]⟩->Np w w W->Q .normal ⟨t,[]⟩ W)->Hg.wp prog Q a w from K _ λt W q r=>⟨rfl,q,r⟩
 intro Q E;have D:=Zp (λW h=>Kp s.op s.md o m s.x s.y s.z u B j W h);obtain⟨f,rfl,F⟩:=C.lit;unfold V48;simp only[eL,aaj,ZG,aaS,aa3,and_true]at F;obtain⟨G,H,q,r,I⟩:=F;rw[H,q,r,I,G];have c0:=g 0 (iI s.kd) rfl;have R:=g 2 (iI s.op) rfl;have S:=g 3 (iI s.md) rfl;have T:=g 4 (iU s.x) rfl;have U:=g 5 (iU s.y) rfl;have V:=g 6 (iU s.z) rfl;have L:IntKind.u8.wrap s.op=o:=by rw[acF];exact u
 have M:o<256:=oM;have N:(0:Int)<=o:=oM;have O:(o:Int)<=255:=oM;have c:∀(t:Array Aq)(W:AK),t.size=48->t[0]?=some (.slice A n cap)->t[1]?=iI 0->t[2]?=iI 255->t[7]?=iI i->Np w w W->Q .normal ⟨t,[]⟩ W:=λt W q1 X Y Z q5 P=>E _ _ ⟨q1,rfl,λp J=>by
  simp only[eL,ZM,ZG,aaV]at J;rcases J with rfl|rfl|rfl|rfl<;>assumption⟩ P
 replace c:=Zp c;clear E;replace h:=Zp h;clear g u B C j G H q r I;conv=>arg 2;whnf
 by_cases d:s.kd=2
 .rw[d]at c0;clear d
  go_wp2_with fail
  refine gB (D.out _ h.out) λw1 v=>?_
  go_wp2_with fail
  exact c.out _ _ rfl rfl rfl rfl rfl v
 have k0:(s.kd==2)=false:=by rw[Zs];exact d
 clear D h d
 go_wp2_with fail
 exact c.out _ _ rfl rfl rfl rfl rfl (Zx _ _)
def Kj(c:dQ [] a):pk.wp prog (λe a' W=>e=.ret/\a'.tmps[6]?=some (.bool true)/\a'.defers=[]/\W=w) a w:=by
 suffices d:∀Q:Exit->Act->AK->Prop,(∀t,t[6]?=some (.bool true)->Q .ret ⟨t,[]⟩ w)->pk.wp prog Q a w from d _ λt g=>⟨rfl,g,rfl,rfl⟩
 intro Q b;replace b:=Zp b;obtain⟨f,rfl,h⟩:=c.lit;unfold V48;conv=>arg 2;whnf
 go_wp2
 exact b.out _ rfl
end
end T
section
def QC(w:AK)(A:Option Es)(b:Nat):Prop:=∀i,i<b->∃a x,A=some a/\w (aD ((a.add (i*8)).block) ((a.add (i*8)).off+2+2))=some (iU ((x:Nat):Int))/\U64 x
attribute[local go_sem] pg tP
def Br(A:Option Es)(b cap:Nat)(g:b<=maxLen)(w:AK)(h:QC w A b):
 Bf prog 16 #[.slice A b cap] w λe w'=>e=.returned (.bool true)/\w=w':=by
 unfold maxLen at g;go_enter func16,ntmps16
 go_wp2
 go_loop[2,3,4,5] (λ_ i _ _=>∃k:Nat,k<=b/\i=iI k) (λ_ i _ _=>b-(intOf i).toNat)
 case atStart=>exact⟨0,Z7 _,rfl⟩
 obtain⟨k,j,rfl⟩:=hrel;by_cases c:k<b
 .obtain⟨a,x,rfl,l,f⟩:=h k c;rcases Qh k with d|d
  .go_wp2_with(first|(go_at_call 27;refine gW (Hr _ f _) ?_)|(go_at_call 28;refine gW (xA _ f _) ?_))
   go_round
   case rel=>exact⟨k+1,oM,by go_num⟩
   simp[intOf];omega
  go_wp2
  go_ret
  exact⟨rfl,rfl⟩
 go_wp2
 go_ret
 exact⟨rfl,rfl⟩
end
namespace T
open Go.Conc Go.ConcN
variable{E:Nat}{v w:AK}
abbrev No:Nat->Prop:=λ_=>False
abbrev zX(E:Nat)(v:AK):Array Obj:=v.heap.map (fS (FV bq λb=>E<=b) False)
def im{m:Md}{wl0 c u:AK}(h:Did m wl0 v c u)(d:Tr m wl0 v)(g:E<=v)(e:∀b,b<E->¬m.GL b)(f:∀b,b<E->c.heap[b]?=wl0.heap[b]?):Np E v u:=
 ⟨h.os,h.tape,h.out,h.size,λb a=>h.block d (e b a) oM (f b a)⟩
section
variable{Goal:Machine->Trace->Prop}{E:Nat}{v:AK}{fn:FuncId}{c:Code}{a:Act}{k:List Item}{c₁:K0}{cs:List K0}
def Way.pieceC(j:E<=v)(g:∃f,prog.funcs[fn]?=some f)(n:aG prog bq glC true c)(o:dD (mE E No) a){R:Act->Prop}
 (i:∀T,c.wp prog (λe a' w'=>e=.normal/\R a'/\∀b,b<E->w'.heap[b]?=(zX E v)[b]?) a (aK (zX E v) T v))
 (d:∀a' u,R a'->dD (mE E No) a'->Np E v u->Way Goal (λ_=>False) (G ((base fn).at a' k) (c₁::cs)) u):Way Goal (λ_=>False) (G ((base fn).at a (.code c::k)) (c₁::cs)) v:=
 Way.piece (cxC _ _) (λ_ l=>Zz j l) (λ_ p=>p.elim) g n o (H:=zX E v) (λT=>trV (mE E No) v T λ_ h=>h) (R:=λa' w'=>R a'/\∀b,b<E->w'.heap[b]?=(zX E v)[b]?) i
  λa' s u m q r=>d a' u m.1 q (im r (trV (mE E No) v _ λ_ h=>h) j (λb l=>by show¬E<=b;omega) m.2)
def ae9:=@Way.pieceC
end
def OpsL.below{A:Option Es}{ops:List Sop}(h:OpsL w A ops)(b:Np w w v):OpsL v A ops:=
 h.cu ⟨λa x c=>by rw[b.cell (bX c)];exact c,b.size⟩
def nT(h:ga w)(b:Np w w v):ga v:=by
 obtain⟨fz,a⟩:=h;exact⟨fz,(b.block 0 (Zq.1 a).1).trans a⟩
def Gr{g:Nat}{cs c:Array Aq}{t:E1}{z:Nat×Nat}{T:Nat->Question->Nat}(h:v.heap[g]?=some (.cells c t z))(d:∀(k:Nat)(x:Aq),cs[k]?=some x->c[k]?=some x)(l:∀x,x∈cs->FV bq (λb=>E<=b) x):
 ∀(k:Nat)(x:Aq),cs[k]?=some x->(aK (zX E v) T v) (aD g k)=some x:=λk x f=>by
 have e:(zX E v)[g]?=some (.cells (ly (FV bq λb=>E<=b) c.toList).toArray t z):=by
  show(v.heap.map _)[g]?=_;rw[abv,h];simp only[aaJ,fS,acd]
 refine cell_of (w:=aK (zX E v) T v) (a:=aD g k) e rfl ?_;show(ly _ c.toList).toArray[k]?=_;rw[ZT,pY (n:=cs.size) (λj i=>⟨cs[j],by rw[aar];exact d j _ (Z5 i),l _ (Array.getElem_mem i)⟩) (Zq.1 f).1,aar];exact d k x f
section
variable{Goal:Machine->Trace->Prop}{A:Option Es}{cap:Nat}{ops:List Sop}{W:AK}{c₁:K0}{cs:List K0}
def MF(hn:(ops:Nat)<=1048576)(hT:ga W)(hO:OpsL W A ops)(O:∀s,s∈ops->U64 s.x/\U64 s.y/\U64 s.z)
 (P:∀v a,Np (W:Nat) W v->dQ (eL A (ops:Nat) cap (ops:Nat)) a->Way Goal (λ_=>False) (G ((base 14).at a [.code pk]) (c₁::cs)) v):
 ∀(m i:Nat),i+m=(ops:Nat)->∀(v:AK)(a:Act),Np (W:Nat) W v->dQ (eL A (ops:Nat) cap i) a->dD (mE (W:Nat) No) a->
  Way Goal (λ_=>False) (G ((base 14).at a [.code uV,.inLoop uV,.inBlock 0,.code pk]) (c₁::cs)) v:=by
 intro m;induction m with
 |zero=>
  intro i hi v a B Q t;obtain rfl:i=(ops:Nat):=oM
  suffices C:Way Goal (λ_=>False) (G ((base 14).at a (.code (.seq (.seq vO (.cond (.tmp 18) .skip (.exit 0))) (.seq (.block 1 (.seq vM Hg)) vN))::[.inLoop uV,.inBlock 0,.code pk])) (c₁::cs)) v by
   rw[<-Ed]at C;exact C
  refine .seq (.seq ?_);refine ae9 B.size l6 zM t (R:=dQ ((18,.bool (decide ((ops:Nat)<(ops:Nat))))::eL A (ops:Nat) cap (ops:Nat))) (λT=>abx (λe a' w' n=>by
   obtain⟨q1,l,rfl⟩:=n;exact⟨q1,l,λ_ _=>rfl⟩) (zu hn Q)) ?_
  intro a1 j f _ g;refine .ctl rfl (λv=>acN (f.ev ZJ)) ?_;rw[Zr sM];refine .ctl rfl (λv=>stepG_exit (k':=[.code pk]) rfl) ?_;exact P j a1 (B.trans g) (f.sub λp S=>aai _ S)
 |succ m ih=>
  intro i hi v a B Q t;have U:i<(ops:Nat):=oM;have V:ops[i]?=some ops[i]:=ZN U;obtain⟨ux,uy,uz⟩:=O _ (aae V);generalize ops[i]=s at V ux uy uz
  suffices C:Way Goal (λ_=>False) (G ((base 14).at a (.code (.seq (.seq vO (.cond (.tmp 18) .skip (.exit 0))) (.seq (.block 1 (.seq vM Hg)) vN))::[.inLoop uV,.inBlock 0,.code pk])) (c₁::cs)) v by
   rw[<-Ed]at C;exact C
  refine .seq (.seq ?_);refine ae9 B.size l6 zM t (R:=dQ ((18,.bool (decide (i<(ops:Nat))))::eL A (ops:Nat) cap i)) (λT=>abx (λe a' w' n=>by
   obtain⟨q1,l,rfl⟩:=n;exact⟨q1,l,λ_ _=>rfl⟩) (zu hn Q)) ?_
  intro a1 j f D g;replace g:=B.trans g;refine .ctl rfl (λv=>acN (f.ev ZJ)) ?_;rw[ZC sO];refine .ctl rfl (λv=>abn) (.seq (.ctl rfl (λv=>acj) (.seq ?_)));replace f:=f.sub (l':=eL A (ops:Nat) cap i) λp S=>aai _ S;have X:∀T,((aK (fu No j) T j):Nat)=(j:Nat):=λT=>by simp[aK,fu]
  have F:=λT=>trS (w:=j) (Dd:=No) (λ_ h=>h.elim) T;refine Way.piece (cxS _ _) (λ_ I=>I) (λ_ hl=>hl.elim) l6 I7 (f.ok λ_=>trivial) (H:=fu No j) F
   (R:=λa' w'=>(dQ ((8,pT (j:Nat) 0)::eL A (ops:Nat) cap i) a'/\∀x,x∈a'.tmps->FV bq (λb=>(W:Nat)<=b) x)/\(∃A' k,w'.heap[(j:Nat)]?=some (.cells (iS s A' k) 31 (0,0)))/\∀b,b<(j:Nat)->w'.heap[b]?=(fu No j)[b]?) (λT=>?_) ?_
  .refine abx (λe a' w' n=>?_) (IJ (w:=aK (fu No j) T j) (GL:=λb=>(W:Nat)<=b) ((hO.below g).cu (rW (λ_ _=>rfl) (Zo _) (λ_ h=>h.elim) T)).at V f D.1);obtain⟨q1,⟨l,Y⟩,A',k,rfl⟩:=n;rw[X]at l;exact⟨q1,⟨l,Y⟩,⟨A',k,by rw[<-X T];exact World.alloc_heap_new _ _⟩,λb I=>aap _ _ _ (by rw[X];exact I)⟩
  rintro a2 wl2 Z⟨⟨J,aa⟩,⟨A',k,K⟩,ab⟩ _ u;have q:=g.trans ((im u (F _) (Zo _) (λb I=>by show¬(j:Nat)<=b;omega) ab).mono g.size);obtain⟨cc,ac,L,hle⟩:=u.tr.cells K;have hz2:=u.size;refine ae9 q.size l6 Mu ⟨aa,λd hd=>by rw[J.2.1]at hd;simp at hd⟩ (R:=dQ (eL A (ops:Nat) cap i)) (λT=>?_) ?_
  .refine abx (λe a' w' n=>?_) (NH (w:=aK (zX (W:Nat) Z) T Z) (m:=(s.md%256).toNat) (o:=(s.op%256).toNat) (kz (ga.lone (nT hT q) T)) oM oM (rm oM ux uy uz) (Gr ac L Uz) J);obtain⟨q1,l,Y⟩:=n;have:=q.size;exact⟨q1,l,λb I=>Y.block b (by show b<(Z.heap.map _).size;rw[adp];omega)⟩
  intro a3 v3 ag M r;replace r:=q.trans r;refine .ctl rfl (λv=>adG) ?_;refine ae9 r.size l6 I8 M (R:=dQ (eL A (ops:Nat) cap (i+1))) (λT=>abx (λe a' w' n=>by
   obtain⟨q1,l,rfl⟩:=n;exact⟨q1,l,λ_ _=>rfl⟩) (IM oM ag)) ?_
  intro a4 v4 am N ao;exact .ctl rfl (λv=>adW) (ih (i+1) oM v4 a4 (r.trans ao) am N)
def Pu(N:(ops:Nat)<=1048576)(O:ga W)(P:OpsL W A ops)(r:∀s,s∈ops->U64 s.x/\U64 s.y/\U64 s.z)
 (i:∀v,Np W W v->Way Goal (λ_=>False) (G (c₁.finish (.bool true)) cs) v):
 Way Goal (λ_=>False) (G (Frame.enter prog 14 #[.slice A ops cap,iI 0,iI 255] .normal) (c₁::cs)) W:=by
 rw[aeo (c:=qG) _ func14 rfl];have j:dQ [(0,.slice A ops cap),(1,iI 0),(2,iI 255)] {tmps:=#[.slice A ops cap,iI 0,iI 255]++Array.replicate (f14.ntmps-(#[Value.slice A ops cap,iI 0,iI 255]:Array Aq).size) C0,defers:=[]}:=⟨by simp[f14],rfl,λp J=>by
  simp only[ZM,ZG,aaV]at J;rcases J with rfl|rfl|rfl<;>simp⟩
 have f:dD (mE W No) {tmps:=#[.slice A ops cap,iI 0,iI 255]++Array.replicate (f14.ntmps-(#[Value.slice A ops cap,iI 0,iI 255]:Array Aq).size) C0,defers:=[]}:=⟨λv g=>by
  rcases aby.1 g with g|g
  .simp only[aaX,ZM,ZG,aaV]at g;rcases g with rfl|rfl|rfl<;>exact .sc rfl
  obtain⟨_,rfl⟩:=acw.1 g;exact mB (Cw _ _),λd k=>by simp at k⟩
 generalize({tmps:=#[.slice A ops cap,iI 0,iI 255]++Array.replicate (f14.ntmps-(#[Value.slice A ops cap,iI 0,iI 255]:Array Aq).size) C0,defers:=[]}:Act)=a0 at j f⊢;rw[He];refine .seq ?_;refine ae9 (Zo _) l6 Ja f (R:=dQ [(0,.slice A ops cap),(1,iI 0),(2,iI 255)]) (λT=>abx (λe a' w' t=>by
  obtain⟨q1,B,rfl⟩:=t;exact⟨q1,B,λ_ _=>rfl⟩) (IY j)) ?_
 intro Z v1 C l m;refine .seq (.seq ?_);refine ae9 m.size l6 I9 l (R:=dQ (eL A ops cap 0)) (λT=>abx (λe a' w' t=>by
  obtain⟨q1,B,rfl⟩:=t;exact⟨q1,B,λ_ _=>rfl⟩) (IU C)) ?_
 intro Q S D n F;refine .ctl rfl (λv=>acj) (.ctl rfl (λv=>stepG_loop) ?_);refine MF N O P r ?_ ops 0 oM S Q (m.trans F) D n;intro v a K L;have o:=λT=>trS (w:=v) (Dd:=No) (λ_ h=>h.elim) T;refine Way.tail (cxS _ _) (λ_ M=>M) (λ_ U=>U.elim) l6 (by
  intro it I;obtain rfl:=aag.1 I;exact Jc) (L.ok λ_=>trivial) (H:=fu No v) o (R:=λy w'=>y=.bool true/\∀b,b<(v:Nat)->w'.heap[b]?=(fu No v)[b]?) (λT=>?_) ?_
 .obtain⟨e,a',w',⟨rfl,V,k,rfl⟩,q⟩:=Kj (w:=aK (fu No v) T v) (L.sub (l':=[]) sM) (base 14) [] [c0];obtain⟨todo,X⟩:=q;refine⟨_,_,X.trans (.one (ab9 ⟨rfl,k,rfl,f14,func14,?_⟩)),rfl,λ_ _=>rfl⟩;show(results f14 a'.tmps).run _ _=_;simp[results,f14,V]
 rintro y wl u⟨rfl,Y⟩ _ k;exact i u (K.trans ((im k (o _) (Zo _) (λb M=>by show¬(v:Nat)<=b;omega) Y).mono K.size))
def AU(o:(ops:Nat)<=1048576)(p:OpsL W A ops)(g:∀s,s∈ops->U64 s.x/\U64 s.y/\U64 s.z)
 (a:∀v,Np W W v->Way Goal (λ_=>False) (G (c₁.finish (.bool true)) cs) v):
 Way Goal (λ_=>False) (G (Frame.enter prog 16 #[.slice A ops cap] .normal) (c₁::cs)) W:=by
 have d:=λT=>trS (w:=W) (Dd:=No) (λ_ h=>h.elim) T;refine Way.call (cxS _ _) (λ_ j=>j) (λ_ q=>q.elim) (f:=16) (by kernel_rfl) func16 rfl (λ_ _=>trivial) (H:=fu No W) d (R:=λy w'=>y=.bool true/\∀b,b<(W:Nat)->w'.heap[b]?=(fu No W)[b]?) (λT=>?_) ?_
 .refine(Br A ops cap (Zz o dC) _ ?_).mono λe w' h=>?_
  .intro i k;obtain⟨l,m,A',n,rfl,h,_⟩:=(p.cu (rW (Dd:=No) (λ_ _=>rfl) (Zo _) (λ_ h=>h.elim) T)) i _ (ZN k);(have e1:(aD l m:Es).add (i*8)=aD l (m+i*8):=by simp[Addr.add]);exact⟨_,_,rfl,by rw[e1];exact h.c4,(g _ (aer k)).1⟩
  obtain⟨rfl,rfl⟩:=h;exact⟨_,rfl,rfl,λ_ _=>rfl⟩
 rintro y B u⟨rfl,r⟩ _ t;exact a u (im t (d _) (Zo _) (λb j=>by show¬(W:Nat)<=b;omega) r)
end
end T
namespace T
open Go.Conc Go.ConcN
noncomputable def OO:Code:=Tryd.f6.body.getD .skip
def xF:Array Oper:=#[{dst:=some 6,op:=.move (.tmp 0),type:=22,pos:= "law.go:194",after:=#[],guard:=none},{dst:=some 7,op:=.call {callee:=.value (.func 16),args:=#[.tmp 6],argTypes:=#[22]},type:=4,pos:= "law.go:194",after:=#[{on:=0,ground:=.data}],guard:=none},{dst:=some 3,op:=.assign (.tmp 7),type:=4,pos:= "law.go:194",after:=#[{on:=1,ground:=.data},{on:=1,ground:=.chain},{on:=0,ground:=.phase},{on:=1,ground:=.phase}],guard:=none}]
def n8:Array Oper:=#[{dst:=some 8,op:=.move (.tmp 0),type:=22,pos:= "law.go:195",after:=#[],guard:=none},{dst:=some 9,op:=.call {callee:=.value (.func 14),args:=#[.tmp 8,.const (iI 0),.const (iI 255)],argTypes:=#[22,3,3]},type:=4,pos:= "law.go:195",after:=#[{on:=0,ground:=.data}],guard:=none},{dst:=some 4,op:=.assign (.tmp 9),type:=4,pos:= "law.go:195",after:=#[{on:=1,ground:=.data},{on:=1,ground:=.chain},{on:=0,ground:=.phase},{on:=1,ground:=.phase}],guard:=none}]
def jM:Array Oper:=#[{dst:=some 10,op:=.move (.tmp 0),type:=22,pos:= "law.go:196",after:=#[],guard:=none},{dst:=some 11,op:=.call {callee:=.value (.func 15),args:=#[.tmp 10],argTypes:=#[22]},type:=4,pos:= "law.go:196",after:=#[{on:=0,ground:=.data}],guard:=none},{dst:=some 5,op:=.assign (.tmp 11),type:=4,pos:= "law.go:196",after:=#[{on:=1,ground:=.data},{on:=1,ground:=.chain},{on:=0,ground:=.phase},{on:=1,ground:=.phase}],guard:=none}]
def dH:Array Oper:=#[{dst:=some 12,op:=.move (.tmp 3),type:=4,pos:= "law.go:197",after:=#[],guard:=none},{dst:=some 13,op:=.move (.tmp 12),type:=4,pos:= "law.go:197",after:=#[{on:=0,ground:=.data}],guard:=none},{dst:=some 14,op:=.move (.tmp 4),type:=4,pos:= "law.go:197",after:=#[{on:=1,ground:=.guard}],guard:=some (1,true)},{dst:=some 15,op:=.pick (.tmp 13) (.tmp 14) (.const (.bool false)),type:=4,pos:= "law.go:197",after:=#[{on:=1,ground:=.data},{on:=2,ground:=.data}],guard:=none},{dst:=some 16,op:=.move (.tmp 15),type:=4,pos:= "law.go:197",after:=#[{on:=3,ground:=.data},{on:=1,ground:=.chain}],guard:=none},{dst:=some 17,op:=.move (.tmp 5),type:=4,pos:= "law.go:197",after:=#[{on:=4,ground:=.guard}],guard:=some (4,true)},{dst:=some 18,op:=.pick (.tmp 16) (.tmp 17) (.const (.bool false)),type:=4,pos:= "law.go:197",after:=#[{on:=4,ground:=.data},{on:=5,ground:=.data}],guard:=none},{dst:=some 2,op:=.assign (.tmp 18),type:=4,pos:= "law.go:197",after:=#[{on:=6,ground:=.data},{on:=4,ground:=.chain},{on:=0,ground:=.phase},{on:=1,ground:=.phase},{on:=2,ground:=.phase},{on:=3,ground:=.phase},{on:=4,ground:=.phase},{on:=5,ground:=.phase},{on:=6,ground:=.phase}],guard:=none}]
def KQ:OO=.seq (.region 0 #[{dst:=some 2,op:=.assign (.const (.bool false)),type:=4,pos:= "law.go:193",after:=#[],guard:=none}] false) (.seq (.region 1 xF false) (.seq (.region 2 n8 false) (.seq (.region 3 jM false) (.seq (.region 4 dH false) .ret)))):=by kernel_rfl
def all_way{W:AK}{A:Option Es}{cap:Nat}{ops:List Sop}{x:LR->Nat×Nat×Bool}(C:ga W)(p:OpsL W A ops)(r:SayO x ops)(h:∀s,s∈ops->U64 s.x/\U64 s.y/\U64 s.z):
 Way (Ln λv D=>v=.bool true/\Np W W D) (λ_=>False) (G (Frame.enter prog 6 #[.slice A ops cap] .normal) []) W:=by
 rw[aeo (c:=OO) _ func6 rfl,KQ];show Way _ _ (G ((base _).at ⟨#[.slice A ops cap,C0,C0,C0,C0,C0,C0,C0,C0,C0,C0,C0,C0,C0,C0,C0,C0,C0,C0],[]⟩ _) []) W;refine .seq (.region ?_);refine ae7 (x:=.bool false) rfl rfl dC (λv=>by simp[Lk,Act.eval]) (λv=>by simp[Lk]) ?_;refine .region_end ?_;show Way _ _ (G ((base _).at ⟨#[.slice A ops cap,C0,.bool false,C0,C0,C0,C0,C0,C0,C0,C0,C0,C0,C0,C0,C0,C0,C0,C0],[]⟩ _) []) W;refine .seq (.region ?_);show Way _ _ (G ((base _).at ⟨#[.slice A ops cap,C0,.bool false,C0,C0,C0,C0,C0,C0,C0,C0,C0,C0,C0,C0,C0,C0,C0,C0],[]⟩ (.inRegion xF [0,1,2]::.code (.seq (.region 2 n8 false) (.seq (.region 3 jM false) (.seq (.region 4 dH false) .ret)))::[])) []) W;refine ae7 (x:=.slice A ops cap) (o:={dst:=some 6,op:=.move (.tmp 0),type:=22,pos:= "law.go:194",after:=#[],guard:=none}) rfl rfl dC (λv=>by simp[Lk,Act.eval]) (λv=>by simp[Lk]) ?_;show Way _ _ (G ((base _).at ⟨#[.slice A ops cap,C0,.bool false,C0,C0,C0,.slice A ops cap,C0,C0,C0,C0,C0,C0,C0,C0,C0,C0,C0,C0],[]⟩ (.inRegion xF [1,2]::.code (.seq (.region 2 n8 false) (.seq (.region 3 jM false) (.seq (.region 4 dH false) .ret)))::[])) []) W;refine Way.enter (b:=base _) (o:={dst:=some 7,op:=.call {callee:=.value (.func 16),args:=#[.tmp 6],argTypes:=#[22]},type:=4,pos:= "law.go:194",after:=#[{on:=0,ground:=.data}],guard:=none}) rfl rfl dC rfl func16 rfl rfl (vals:=#[.slice A ops cap]) (by simp[Act.eval]) ?_;refine AU r.len p h ?_;intro l g;rw[acG];show Way _ _ (G ((base _).at ⟨#[.slice A ops cap,C0,.bool false,C0,C0,C0,.slice A ops cap,.bool true,C0,C0,C0,C0,C0,C0,C0,C0,C0,C0,C0],[]⟩ (.inRegion xF [2]::.code (.seq (.region 2 n8 false) (.seq (.region 3 jM false) (.seq (.region 4 dH false) .ret)))::[])) []) l;refine ae7 (x:=.bool true) (o:={dst:=some 3,op:=.assign (.tmp 7),type:=4,pos:= "law.go:194",after:=#[{on:=1,ground:=.data},{on:=1,ground:=.chain},{on:=0,ground:=.phase},{on:=1,ground:=.phase}],guard:=none}) rfl rfl dC (λv=>by simp[Lk,Act.eval]) (λv=>by simp[Lk]) ?_;refine .region_end ?_;show Way _ _ (G ((base _).at ⟨#[.slice A ops cap,C0,.bool false,.bool true,C0,C0,.slice A ops cap,.bool true,C0,C0,C0,C0,C0,C0,C0,C0,C0,C0,C0],[]⟩ _) []) l;refine .seq (.region ?_);show Way _ _ (G ((base _).at ⟨#[.slice A ops cap,C0,.bool false,.bool true,C0,C0,.slice A ops cap,.bool true,C0,C0,C0,C0,C0,C0,C0,C0,C0,C0,C0],[]⟩ (.inRegion n8 [0,1,2]::.code (.seq (.region 3 jM false) (.seq (.region 4 dH false) .ret))::[])) []) l;refine ae7 (x:=.slice A ops cap) (o:={dst:=some 8,op:=.move (.tmp 0),type:=22,pos:= "law.go:195",after:=#[],guard:=none}) rfl rfl dC (λv=>by simp[Lk,Act.eval]) (λv=>by simp[Lk]) ?_;show Way _ _ (G ((base _).at ⟨#[.slice A ops cap,C0,.bool false,.bool true,C0,C0,.slice A ops cap,.bool true,.slice A ops cap,C0,C0,C0,C0,C0,C0,C0,C0,C0,C0],[]⟩ (.inRegion n8 [1,2]::.code (.seq (.region 3 jM false) (.seq (.region 4 dH false) .ret))::[])) []) l;refine Way.enter (b:=base _) (o:={dst:=some 9,op:=.call {callee:=.value (.func 14),args:=#[.tmp 8,.const (iI 0),.const (iI 255)],argTypes:=#[22,3,3]},type:=4,pos:= "law.go:195",after:=#[{on:=0,ground:=.data}],guard:=none}) rfl rfl dC rfl func14 rfl rfl (vals:=#[.slice A ops cap,iI 0,iI 255]) (by simp[Act.eval]) ?_;refine Pu r.len (nT C g) (p.below g) h ?_;intro m a;replace a:=g.trans (a.mono g.size);rw[acG];show Way _ _ (G ((base _).at ⟨#[.slice A ops cap,C0,.bool false,.bool true,C0,C0,.slice A ops cap,.bool true,.slice A ops cap,.bool true,C0,C0,C0,C0,C0,C0,C0,C0,C0],[]⟩ (.inRegion n8 [2]::.code (.seq (.region 3 jM false) (.seq (.region 4 dH false) .ret))::[])) []) m;refine ae7 (x:=.bool true) (o:={dst:=some 4,op:=.assign (.tmp 9),type:=4,pos:= "law.go:195",after:=#[{on:=1,ground:=.data},{on:=1,ground:=.chain},{on:=0,ground:=.phase},{on:=1,ground:=.phase}],guard:=none}) rfl rfl dC (λv=>by simp[Lk,Act.eval]) (λv=>by simp[Lk]) ?_;refine .region_end ?_;show Way _ _ (G ((base _).at ⟨#[.slice A ops cap,C0,.bool false,.bool true,.bool true,C0,.slice A ops cap,.bool true,.slice A ops cap,.bool true,C0,C0,C0,C0,C0,C0,C0,C0,C0],[]⟩ _) []) m;refine .seq (.region ?_);show Way _ _ (G ((base _).at ⟨#[.slice A ops cap,C0,.bool false,.bool true,.bool true,C0,.slice A ops cap,.bool true,.slice A ops cap,.bool true,C0,C0,C0,C0,C0,C0,C0,C0,C0],[]⟩ (.inRegion jM [0,1,2]::.code (.seq (.region 4 dH false) .ret)::[])) []) m;refine ae7 (x:=.slice A ops cap) (o:={dst:=some 10,op:=.move (.tmp 0),type:=22,pos:= "law.go:196",after:=#[],guard:=none}) rfl rfl dC (λv=>by simp[Lk,Act.eval]) (λv=>by simp[Lk]) ?_;show Way _ _ (G ((base _).at ⟨#[.slice A ops cap,C0,.bool false,.bool true,.bool true,C0,.slice A ops cap,.bool true,.slice A ops cap,.bool true,.slice A ops cap,C0,C0,C0,C0,C0,C0,C0,C0],[]⟩ (.inRegion jM [1,2]::.code (.seq (.region 4 dH false) .ret)::[])) []) m;refine Way.enter (b:=base _) (o:={dst:=some 11,op:=.call {callee:=.value (.func 15),args:=#[.tmp 10],argTypes:=#[22]},type:=4,pos:= "law.go:196",after:=#[{on:=0,ground:=.data}],guard:=none}) rfl rfl dC rfl func15 rfl rfl (vals:=#[.slice A ops cap]) (by simp[Act.eval]) ?_;refine Qj (nT C a) (p.below a) r ?_;intro f Dd v E F H i I J K;have u:Np W W v:=a.trans ⟨J,I,K,H,λb w=>i b (ZB w a.size)⟩;rw[acG];show Way _ f (G ((base _).at ⟨#[.slice A ops cap,C0,.bool false,.bool true,.bool true,C0,.slice A ops cap,.bool true,.slice A ops cap,.bool true,.slice A ops cap,.bool true,C0,C0,C0,C0,C0,C0,C0],[]⟩ (.inRegion jM [2]::.code (.seq (.region 4 dH false) .ret)::[])) []) v;refine ae7 (x:=.bool true) (o:={dst:=some 5,op:=.assign (.tmp 11),type:=4,pos:= "law.go:196",after:=#[{on:=1,ground:=.data},{on:=1,ground:=.chain},{on:=0,ground:=.phase},{on:=1,ground:=.phase}],guard:=none}) rfl rfl dC (λv=>by simp[Lk,Act.eval]) (λv=>by simp[Lk]) ?_;refine .region_end ?_;show Way _ f (G ((base _).at ⟨#[.slice A ops cap,C0,.bool false,.bool true,.bool true,.bool true,.slice A ops cap,.bool true,.slice A ops cap,.bool true,.slice A ops cap,.bool true,C0,C0,C0,C0,C0,C0,C0],[]⟩ (.code (.seq (.region 4 dH false) .ret)::[])) []) v;refine .seq (.region ?_);show Way _ f (G ((base _).at ⟨#[.slice A ops cap,C0,.bool false,.bool true,.bool true,.bool true,.slice A ops cap,.bool true,.slice A ops cap,.bool true,.slice A ops cap,.bool true,C0,C0,C0,C0,C0,C0,C0],[]⟩ (.inRegion dH [0,1,2,3,4,5,6,7]::.code .ret::[])) []) v;refine ae7 (x:=.bool true) (o:={dst:=some 12,op:=.move (.tmp 3),type:=4,pos:= "law.go:197",after:=#[],guard:=none}) rfl (by rfl) dC (λv=>by simp[Lk,Act.eval]) (λv=>by simp[Lk]) ?_;show Way _ f (G ((base _).at ⟨#[.slice A ops cap,C0,.bool false,.bool true,.bool true,.bool true,.slice A ops cap,.bool true,.slice A ops cap,.bool true,.slice A ops cap,.bool true,.bool true,C0,C0,C0,C0,C0,C0],[]⟩ (.inRegion dH [1,2,3,4,5,6,7]::.code .ret::[])) []) v;refine ae7 (x:=.bool true) (o:={dst:=some 13,op:=.move (.tmp 12),type:=4,pos:= "law.go:197",after:=#[{on:=0,ground:=.data}],guard:=none}) rfl (by rfl) dC (λv=>by simp[Lk,Act.eval]) (λv=>by simp[Lk]) ?_;show Way _ f (G ((base _).at ⟨#[.slice A ops cap,C0,.bool false,.bool true,.bool true,.bool true,.slice A ops cap,.bool true,.slice A ops cap,.bool true,.slice A ops cap,.bool true,.bool true,.bool true,C0,C0,C0,C0,C0],[]⟩ (.inRegion dH [2,3,4,5,6,7]::.code .ret::[])) []) v;refine ae7 (x:=.bool true) (o:={dst:=some 14,op:=.move (.tmp 4),type:=4,pos:= "law.go:197",after:=#[{on:=1,ground:=.guard}],guard:=some (1,true)}) rfl (by rfl) dC (λv=>by simp[Lk,Act.eval]) (λv=>by simp[Lk]) ?_;show Way _ f (G ((base _).at ⟨#[.slice A ops cap,C0,.bool false,.bool true,.bool true,.bool true,.slice A ops cap,.bool true,.slice A ops cap,.bool true,.slice A ops cap,.bool true,.bool true,.bool true,.bool true,C0,C0,C0,C0],[]⟩ (.inRegion dH [3,4,5,6,7]::.code .ret::[])) []) v;refine ae7 (x:=.bool true) (o:={dst:=some 15,op:=.pick (.tmp 13) (.tmp 14) (.const (.bool false)),type:=4,pos:= "law.go:197",after:=#[{on:=1,ground:=.data},{on:=2,ground:=.data}],guard:=none}) rfl (by rfl) dC (λv=>by simp[Lk,Act.eval,asBool]) (λv=>by simp[Lk,Act.eval,asBool]) ?_;show Way _ f (G ((base _).at ⟨#[.slice A ops cap,C0,.bool false,.bool true,.bool true,.bool true,.slice A ops cap,.bool true,.slice A ops cap,.bool true,.slice A ops cap,.bool true,.bool true,.bool true,.bool true,.bool true,C0,C0,C0],[]⟩ (.inRegion dH [4,5,6,7]::.code .ret::[])) []) v;refine ae7 (x:=.bool true) (o:={dst:=some 16,op:=.move (.tmp 15),type:=4,pos:= "law.go:197",after:=#[{on:=3,ground:=.data},{on:=1,ground:=.chain}],guard:=none}) rfl (by rfl) dC (λv=>by simp[Lk,Act.eval]) (λv=>by simp[Lk]) ?_;show Way _ f (G ((base _).at ⟨#[.slice A ops cap,C0,.bool false,.bool true,.bool true,.bool true,.slice A ops cap,.bool true,.slice A ops cap,.bool true,.slice A ops cap,.bool true,.bool true,.bool true,.bool true,.bool true,.bool true,C0,C0],[]⟩ (.inRegion dH [5,6,7]::.code .ret::[])) []) v;refine ae7 (x:=.bool true) (o:={dst:=some 17,op:=.move (.tmp 5),type:=4,pos:= "law.go:197",after:=#[{on:=4,ground:=.guard}],guard:=some (4,true)}) rfl (by rfl) dC (λv=>by simp[Lk,Act.eval]) (λv=>by simp[Lk]) ?_;show Way _ f (G ((base _).at ⟨#[.slice A ops cap,C0,.bool false,.bool true,.bool true,.bool true,.slice A ops cap,.bool true,.slice A ops cap,.bool true,.slice A ops cap,.bool true,.bool true,.bool true,.bool true,.bool true,.bool true,.bool true,C0],[]⟩ (.inRegion dH [6,7]::.code .ret::[])) []) v;refine ae7 (x:=.bool true) (o:={dst:=some 18,op:=.pick (.tmp 16) (.tmp 17) (.const (.bool false)),type:=4,pos:= "law.go:197",after:=#[{on:=4,ground:=.data},{on:=5,ground:=.data}],guard:=none}) rfl (by rfl) dC (λv=>by simp[Lk,Act.eval,asBool]) (λv=>by simp[Lk,Act.eval,asBool]) ?_;show Way _ f (G ((base _).at ⟨#[.slice A ops cap,C0,.bool false,.bool true,.bool true,.bool true,.slice A ops cap,.bool true,.slice A ops cap,.bool true,.slice A ops cap,.bool true,.bool true,.bool true,.bool true,.bool true,.bool true,.bool true,.bool true],[]⟩ (.inRegion dH [7]::.code .ret::[])) []) v;refine ae7 (x:=.bool true) (o:={dst:=some 2,op:=.assign (.tmp 18),type:=4,pos:= "law.go:197",after:=#[{on:=6,ground:=.data},{on:=4,ground:=.chain},{on:=0,ground:=.phase},{on:=1,ground:=.phase},{on:=2,ground:=.phase},{on:=3,ground:=.phase},{on:=4,ground:=.phase},{on:=5,ground:=.phase},{on:=6,ground:=.phase}],guard:=none}) rfl (by rfl) dC (λv=>by simp[Lk,Act.eval]) (λv=>by simp[Lk]) ?_;refine .region_end ?_;show Way _ f (G ((base _).at ⟨#[.slice A ops cap,C0,.bool true,.bool true,.bool true,.bool true,.slice A ops cap,.bool true,.slice A ops cap,.bool true,.slice A ops cap,.bool true,.bool true,.bool true,.bool true,.bool true,.bool true,.bool true,.bool true],[]⟩ (.code .ret::[])) []) v;refine .ctl rfl (λv=>abQ) ?_;intro n e L t q sl M;have w:∀d,Np W W (n.at d):=λd=>u.trans ⟨e.os,e.tape,e.out,by show (v:Nat)<=n;rw[e.heap];exact Zo _,λk N=>by show n.heap[k]?=_;rw[e.heap]⟩;refine⟨0,_,t,rfl,L,_,n,sl,q,_,f,rfl,M,rfl,λd=>⟨.bool true,?_,rfl,w d⟩⟩;have j:∀v:AK,(results Tryd.f6 #[.slice A ops cap,C0,.bool true,.bool true,.bool true,.bool true,.slice A ops cap,.bool true,.slice A ops cap,.bool true,.slice A ops cap,.bool true,.bool true,.bool true,.bool true,.bool true,.bool true,.bool true,.bool true]).run prog v=.ok (.bool true) v:=λv=>by simp[results,Tryd.f6]
 have B:∀v:AK,(results Tryd.f6 #[.slice A ops cap,C0,.bool true,.bool true,.bool true,.bool true,.slice A ops cap,.bool true,.slice A ops cap,.bool true,.slice A ops cap,.bool true,.bool true,.bool true,.bool true,.bool true,.bool true,.bool true,.bool true]).events prog v #[]=#[]:=λv=>by simp[results,Tryd.f6]
 simp[KC,unwind,doReturn,G,Frame.at,base,func6,j,B,Go.Conc.seen_none,GStep.after]
end T
section
open Go.WideShapes Go.ChangeShapes Go.ChangeAt Go.Conc
def T.ops_u64{W:AK}{A:Option Es}{ops:List Sop}(m:T.OpsL W A ops)(b:StepsIn W A ops):∀s,s∈ops->U64 s.x/\U64 s.y/\U64 s.z:=λs n=>by
 obtain⟨i,c,rfl⟩:=adQ.1 n;obtain⟨d,e,A',f,rfl,h,_⟩:=m i _ (ZN c);obtain⟨a,o,_,Q,_,t,u,op,md,x,y,z,L,v,w,B,C,g,j,l,D,_,_,_,_,E,F,G,_⟩:=b i c;obtain rfl:=ZO o;have e1:∀k,((aD d e:Es).add (i*8)).add k=aD d (e+i*8+k):=λk=>by unfold Addr.add;split<;>split<;>simp_all
 rw[e1]at g j l;have p:=g.symm.trans h.c4;have q:=j.symm.trans h.c5;have r:=l.symm.trans h.c6;simp only[Zt,adR,true_and]at p q r;refine⟨?_,?_,?_⟩
 .rwa [show ops[i].x=x by omega]
 .rwa [show ops[i].y=y by omega]
 rwa [show ops[i].z=z by omega]
def Dm(u:Os)(b:u.Started)(H:Type)(e:E1×Aq->H)(F:Stop.Interp):
 ReturnsInLeavingWide {} checked u 6 .any ((Rows.OpenSpec.upto Rows.allSpec).preRow e prog Tryd.f6 [] false Ei) (((Rows.OpenSpec.upto Rows.allSpec).at F).post e prog Tryd.f6 false true false false):=by
 refine returnsInLeavingWide_of_good own b ⟨World.doorLaid prog 600 u,λ_ _=>0,⟨#[],#[.slice none 0 0],[]⟩,rfl,World.shaped_of_RefB (by kernel_rfl) (by kernel_rfl),rfl,(Input.okWide_of_okWideB (by kernel_rfl)).2,
  OpenSpec.preRow_of_cond (s:=Rows.OpenSpec.upto Rows.allSpec) 8 (x:=([.nil],[],[])) (by kernel_rfl) (by kernel_rfl) (λk z=>by cases z;kernel_rfl) (by kernel_rfl) (Ko u _),by
   simp only[Assume.holds];exact⟨sM,sM,λ_=>Modest.zero,sM,sM⟩⟩ ?_
 intro w g i _ B _ C h _;obtain⟨_,_,_,fn',l,_,_,_,_,m⟩:=C;obtain rfl:fn'=Tryd.f6:=ZO (l.symm.trans func6);obtain⟨⟨D,M⟩,W⟩:=h;obtain⟨ds,X,y,O,Y,z⟩:=OpenSpec.pre_parts D;have n:=DataW.Whole.of_heap (w':=w.forCall g i) (by rfl) O;obtain⟨A,P,cap,c,_,E,G⟩:=JC (nm:= "all") (f:=Tryd.f6) rfl rfl (λj t v I J=>.inr ⟨w,m j t v I J⟩) n;have p:=n;rw[c]at p;obtain⟨ops,rfl,q,K,Q⟩:=Pm (nm:= "all") (f:=Tryd.f6) rfl p (z _ rfl);have L:=xk (M.of_heap (by rfl)) B;have d:=T.run_to_end (T.all_way (cap:=cap) L K (Pc (kz L) q Q) (T.ops_u64 K (BU E)));rw[<-c]at d;obtain⟨N,r,o,w',R,I,J,S,U⟩:=d;refine⟨N,r,o,w',R,I,J,S,U.mono λv D=>?_⟩;obtain⟨rfl,V⟩:=D;exact ChangeSpec.post_blind (G w' V)
def Hj:Rows.AllUptoSaid:=
 oa (s:=Rows.OpenSpec.upto Rows.allSpec) 6 Tryd.f6 rfl rfl rfl rfl rfl rfl rfl ⟨rfl,rfl,rfl,rfl,rfl⟩ rfl rfl rfl rfl rfl (by kernel_rfl) func6 (by kernel_rfl)
  (aec (by kernel_rfl)) (by unfold Func.isWrapper;first|(rw[ZC (by decide+kernel)];kernel_rfl)|(rw[Zr (by decide+kernel)];exact⟨rfl,rfl⟩))
  (λc a H b _ F=>Dm c a H b F)
theorem all_card_holds:Rows.AllUptoCardSaid:=
 rC .later [.funcs] true (true,"6c2333d7cfd43ffcebf9976d2fa59ef1805734a55d7131f269abed5f0ab20e77") false Hj (by kernel_rfl) allUpto_row_tie rfl ⟨rfl,rfl⟩ (by kernel_rfl) rfl
  (λf fn e c=>by
   (obtain rfl:f=6:=ZO ((show prog.funcNamed "softfloat/softfloatlaw.All"=some 6 by kernel_rfl).symm.trans e)|>.symm);obtain rfl:fn=Tryd.f6:=(ZO (func6.symm.trans c)).symm;exact⟨by kernel_rfl,λj t d=>by
    have g:Tryd.f6.params=#[22]:=rfl;rw[g]at d;(have h:t∈[22]:=by simpa using ZS d);(have b:([22].all λu=>!prog.wantsStandIn u):=by kernel_rfl);exact(show prog.wantsStandIn t=false by simpa using acb.1 b t h)⟩)
  (by kernel_rfl)
end
#print axioms all_card_holds
end Go.Proofs.YtldmbneckcjonaaDoor
