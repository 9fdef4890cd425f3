/- A part of the proof. -/
import Derived.Great.BuildSlice
import Derived.Test.YtldmbneckcjonaaDoorK9
import Derived.Test.YtldmbneckcjonaaDoorK10
set_option linter.defProp false
set_option linter.unusedVariables false
set_option linter.unusedSimpArgs false
set_option maxRecDepth 100000
set_option maxHeartbeats 8000000
noncomputable section
namespace Go.Proofs.YtldmbneckcjonaaDoor
open Go renaming World->AK,Value->Aq,Goroutine->Ar,Calls->Bf,undef->C0,Addr->Es,TypeId->E1,Program->E2,stepG->KC,Frame->K0,execOp->Lk,bits->Na,Event->Nc
open Go.RowKit renaming Below->Np,wrap64->Nq
open Go.Proofs.Tryd
namespace T
open Go.Conc Go.ConcN
variable{Dd':Nat->Prop}{E b n:Nat}{H:Array Obj}{V:Aq->Prop}{c:Array Aq}{d:Prop}{t:E1}{v w:AK}{z:Nat×Nat}
def lower(k:Option Nat):Obj->Obj
 |.cells c t z=>.cells (match k with|none=>c|some n=>c.extract 0 n) t z
 |.view _ t=>.view ⟨0,0,some 0⟩ t
 |.pending _ _=>.deferred none
 |o=>o
def I2(k:Option Nat)(o:Obj):OR o (lower k o):=by
 cases o<;>first|exact .same trivial|exact .view|exact .lost trivial|skip
 rename_i c t z;cases k with
 |none=>exact .cells (λ_ _ h=>h) (Zo _)
 |some n=>
  refine .cells (λi x h=>?_) ?_
  .rw[adr]at h;split at h
   .simpa using h
   cases h
  simp only[Array.size_extract];omega
def Tr.of{m:Md}(T:Nat->Question->Nat)(q:H.size=w)
 (g:∀(b:Nat)(o:Obj),H[b]?=some o->∃a,w.heap[b]?=some a/\OR a o/\(m.GL b->¬IsC o->(a=o/\m.OKo o)\/Void o)/\∀c t z,o=.cells c t z->(∀x,x∈c->m.V x)/\(m.Dd b->c=#[]))(r:∀b,m.Dd b->b<(w:Nat)):Tr m (aK H T w) w:=by
 refine⟨q.symm,λb o e=>?_,λb c t z e=>?_,λb o l e p=>?_,λb h=>⟨by show b<H.size;rw[q];exact r b h,λc t z e=>?_⟩,rfl,rfl⟩
 .obtain⟨a,i,j,f,_⟩:=g b o e;exact⟨a,i,j,λl p=>(f l p).imp And.left id⟩
 .obtain⟨a,i,j,f,k⟩:=g b _ e;exact(k c t z rfl).1
 .obtain⟨a,i,j,f,k⟩:=g b _ e;exact(f l p).imp And.right id
 obtain⟨a,i,j,f,k⟩:=g b _ e;exact(k c t z rfl).2 h
def J3:List Nat:=[21,23,24,25,26,30,35,36,37,43,45,46,47,48,49,50,51,60,62,63,64,65,66,67,68,69,70,71,93,94,95,96,97,98,99,100,101,102,103,104,110,111,112,113,16,27,28,42]
def wu(f:Nat):Bool:=J3.contains f
def glC(g:Nat):Bool:=decide (g<3)
def okc(e:Bool)(a:Nat->Bool)(f:Nat)(c:Code):Prop:=aG prog a glC e c/\∃fn,prog.funcs[f]?=some fn
def mdS(n:Nat)(Dd:Nat->Prop):Md:={V:=λ_=>True,GL:=λb=>n<=b,Dd,good:=wu,okc:=okc false wu}
def PE(n:Nat)(Dd:Nat->Prop):(mdS n Dd).Ok:=⟨λ_ _=>trivial,λ_=>⟨λ_ _ _=>trivial,λ_=>trivial⟩,λ_=>⟨λ_ _ _=>trivial,λ_=>trivial⟩,λ_ _=>⟨λ_=>trivial,λ_=>trivial⟩,λ_ _ _ _ _ _=>trivial,λ_ _=>trivial⟩
def M7:List Nat:=[164,166,85,91,92]
def yd(P:E2)(e:List Nat)(a:Bool):Bool:=e.all λf=>match P.funcs[f]? with
 |some fn=>(match fn.body with|some c=>aG P e.contains glC a c|none=>M7.contains f)&&!(fn.name== "runtime.NumGoroutine")
 |none=>false
def wI:yd prog J3 false:=by kernel_rfl
def pw{e:List Nat}{g:Bool}(h:yd prog e g=true):nN prog (λf=>e.contains f)/\∀f fn c,e.contains f=true->prog.funcs[f]?=some fn->fn.body=some c->aG prog e.contains glC g c=true:=by
 have h:=acb.1 (show e.all _=true from h);have one:∀f,e.contains f=true->∃fn,prog.funcs[f]?=some fn/\(match fn.body with|some c=>aG prog e.contains glC g c|none=>M7.contains f)=true/\(fn.name== "runtime.NumGoroutine")=false:=by
  intro f j;have:=h f (by simpa using j);split at this
  .rename_i fn i;rw[aab,aef]at this;exact⟨fn,i,this.1,this.2⟩
  cases this
 refine⟨λf j=>?_,λf fn c j i m=>?_⟩
 .obtain⟨fn,a,k,o⟩:=one f j;refine⟨fn,a,o,?_⟩;cases p:fn.body with
  |some c=>exact .inl rfl
  |none=>
   rw[p]at k;(have l:f∈M7:=by simpa using k);right;simp only[M7,ZM,ZG,aaV]at l;rcases l with rfl|rfl|rfl|rfl|rfl
   .rw[func164]at a;obtain rfl:=ZO a;exact⟨rfl,by kernel_rfl,add64Entry,by kernel_rfl,.add⟩
   .rw[func166]at a;obtain rfl:=ZO a;exact⟨rfl,by kernel_rfl,sub64Entry,by kernel_rfl,.sub⟩
   .rw[func85]at a;obtain rfl:=ZO a;exact⟨rfl,by kernel_rfl,_,by kernel_rfl,.or⟩
   .rw[func91]at a;obtain rfl:=ZO a;exact⟨rfl,by kernel_rfl,_,by kernel_rfl,.store⟩
   rw[func92]at a;obtain rfl:=ZO a;exact⟨rfl,by kernel_rfl,_,by kernel_rfl,.load⟩
 obtain⟨fn',a,k,_⟩:=one f j;rw[i]at a;obtain rfl:=ZO a;rw[m]at k;exact k
def cxS(n:Nat)(Dd:Nat->Prop):Cx prog (mdS n Dd) glC false:=
 ⟨PE n Dd,(pw wI).1,(pw wI).2,(λh=>by cases h),λ_ _=>Iff.rfl⟩
open Classical in
def fu(Dd:Nat->Prop)(w:AK):Array Obj:=w.heap.mapIdx λb o=>lower (if Dd b then some 0 else none) o
def zW(Dd:Nat->Prop)(w:AK)(b:Nat):(fu Dd w)[b]?=(w.heap[b]?).map (lower (@ite _ (Dd b) (Classical.propDecidable _) (some 0) none)):=by
 unfold fu;rw[adt]
def trS{Dd:Nat->Prop}(j:∀b,Dd b->b<(w:Nat))(T:Nat->Question->Nat):Tr (mdS w Dd) (aK (fu Dd w) T w) w:=by
 refine Tr.of T (by simp[fu]) (λb o g=>?_) j;rw[zW]at g;obtain⟨h,i,rfl⟩:=ZX.1 g;refine⟨h,i,I2 _ _,λk _=>?_,λc t z e=>⟨λ_ _=>trivial,λf=>?_⟩⟩
 .have:=(Zq.1 i).1;have l:(w:Nat)<=b:=k;omega
 have a:Dd b:=f;rw[ZC a]at e;cases h<;>simp only[lower]at e<;>first|(cases e;done)|skip
 cases e;simp
def tA{Dd:Nat->Prop}(h:w.heap[b]?=some (.cells c t z))(a:¬Dd b):(fu Dd w)[b]?=some (.cells c t z):=by
 rw[zW,h,Zr a];rfl
def Gq{Dd:Nat->Prop}{a:Es}{x:Aq}(h:w a=x)(e:¬Dd a.block)(T:Nat->Question->Nat):(aK (fu Dd w) T w) a=x:=by
 obtain⟨c,t,z,f,g,i⟩:=jk h;exact cell_of (w:=aK (fu Dd w) T w) (tA f e) g i
inductive FV(good:Nat->Bool)(GL:Nat->Prop):Aq->Prop
 |sc {x:Aq}:xo x->FV good GL x
 |agg {cs:Array Aq}:(∀c,c∈cs->FV good GL c)->FV good GL (.agg cs)
 |tup {vs:Array Aq}:(∀v,v∈vs->FV good GL v)->FV good GL (.tuple vs)
 |ifc {t:E1} {v:Aq}:FV good GL v->FV good GL (.iface t v)
 |fn {f:Nat} {a b:Array Aq}:good f->(∀v,v∈a->FV good GL v)->(∀v,v∈b->FV good GL v)->FV good GL (.func (.func f) a b)
 |yl {l:Nat}:GL l->FV good GL (.func (.yield l) #[] #[])
def J5:List Nat:=[14,16,17,20,21,23,24,25,26,27,28,29,30,35,36,37,38,40,41,42,43,44,45,46,47,48,49,50,51,55,57,58,59,60,61,62,63,64,65,66,67,68,69,70,71,85,91,92,93,94,95,96,97,98,99,100,101,102,103,104,110,111,112,113,130,131,132,133,134,135,136,137,138,139,140,141,142,143,144,145,146,147,148,149,150,151,152,153,154,155,156,157,158,159,160,161,162,163,164,165,166]
def bq(f:Nat):Bool:=J5.contains f
def mdC(GL Dd:Nat->Prop):Md:={V:=FV bq GL,GL,Dd,good:=bq,okc:=okc true bq}
def Cw(GL Dd:Nat->Prop):(mdC GL Dd).Ok:=by
 refine⟨λ_ h=>.sc h,λcs=>⟨λh=>?_,λh=>.agg h⟩,λk=>⟨λh=>?_,λh=>.tup h⟩,λt v=>⟨λh=>?_,λh=>.ifc h⟩,λf a b e g i=>.fn e g i,λl j=>.yl j⟩
 .cases h with
  |sc h=>cases h
  |agg h=>exact h
 .cases h with
  |sc h=>cases h
  |tup h=>exact h
 cases h with
 |sc h=>cases h
 |ifc h=>exact h
open Classical in
def ly(V:Aq->Prop):List Aq->List Aq
 |[]=>[]
 |x::l=>if V x then x::ly V l else[]
def tk:∀{l:List Aq}{i:Nat}{x:Aq},(ly V l)[i]?=x->l[i]?=x/\V x
 |[],i,x,h=>by simp[ly]at h
 |y::l,i,x,h=>by
  unfold ly at h;split at h
  .cases i with
   |zero=>simp only[ZE,Zt]at h⊢;subst h;exact⟨rfl,‹_›⟩
   |succ i=>simp only[ZI]at h⊢;exact tk h
  simp at h
def zx:∀{l:List Aq},((ly V l):Nat)<=l
 |[]=>Zo _
 |y::l=>by
  unfold ly;split
  .simpa using zx
  simp
def pY:∀{l:List Aq}{n i:Nat},(∀j,j<n->∃x,l[j]?=some x/\V x)->i<n->(ly V l)[i]?=l[i]?
 |[],n,i,h,f=>by obtain⟨x,a,_⟩:=h i f;simp at a
 |y::l,n,i,h,f=>by
  obtain⟨x,a,e⟩:=h 0 oM;simp only[ZE,Zt]at a;subst a;unfold ly;rw[ZC e];cases i with
  |zero=>rfl
  |succ i=>
   simp only[ZI];exact pY (n:=n-1) (λj g=>by obtain⟨x,a,e⟩:=h (j+1) oM;exact⟨x,by simpa using a,e⟩) oM
open Classical in
def fS(V:Aq->Prop)(d:Prop):Obj->Obj
 |.cells c t z=>.cells (if d then#[]else(ly V c.toList).toArray) t z
 |.view _ t=>.view ⟨0,0,some 0⟩ t
 |.number a b=>.number a b
 |_=>.deferred none
open Classical in
def DR(V:Aq->Prop)(d:Prop)(o:Obj):OR o (fS V d o):=by
 cases o<;>first|exact .view|exact .lost trivial|exact .same trivial|skip
 rename_i c t z;show OR _ (.cells (if d then#[]else(ly V c.toList).toArray) t z);by_cases a:d
 .rw[ZC a];exact .cells (λi x h=>by simp at h) sM
 rw[Zr a];exact .cells (λi x h=>by
  rw[ZT]at h;have:=(tk h).1
  rwa [aar]at this) (by have:=zx (V:=V) (l:=c.toList);simpa using this)
open Classical in
def tz{o:Obj}(h:fS V d o=.cells c t z):(∀x,x∈c->V x)/\(d->c=#[]):=by
 cases o<;>simp only[fS]at h<;>first|(cases h;done)|skip
 cases h;by_cases a:d
 .rw[ZC a];exact⟨λx e=>by simp at e,λ_=>rfl⟩
 rw[Zr a];refine⟨λx e=>?_,λh=>absurd h a⟩;obtain⟨i,f⟩:=List.mem_iff_getElem?.1 (aaC.2 e);exact(tk f).2
def zV{m:Md}{o:Obj}(h:¬IsC (fS m.V d o)):(o=fS m.V d o/\m.OKo (fS m.V d o))\/Void (fS m.V d o):=by
 cases o<;>first|exact .inr (.inl rfl)|exact .inr (.inr ⟨_,rfl⟩)|exact .inl ⟨rfl,trivial⟩|exact absurd ⟨_,_,_,rfl⟩ h
def trV(m:Md)(w:AK)(T:Nat->Question->Nat)(a:∀b,¬m.Dd b):Tr m (aK (w.heap.map (fS m.V False)) T w) w:=by
 refine Tr.of T sM (λb o e=>?_) λb h=>absurd h (a b);rw[abv]at e;obtain⟨f,g,rfl⟩:=ZX.1 e;exact⟨f,g,DR _ _ _,λ_ i=>zV i,λc t z j=>⟨(tz j).1,λk=>absurd k (a b)⟩⟩
open Classical in
def zZ(V:Aq->Prop)(Dd Dd':Nat->Prop)(E n:Nat)(H:Array Obj)(v:AK):Array Obj:=
 v.heap.mapIdx λb o=>if b<n/\¬Dd b/\b≠E then(H[b]?).getD o else fS V (Dd' b) o
def zY{Dd:Nat->Prop}(g:H.size=n)(h:n<=v)(a:b<n)(e:¬Dd b)(f:b≠E):(zZ V Dd Dd' E n H v)[b]?=H[b]?:=by
 unfold zZ;rw[adt,Z5 (by omega:b<v),Z5 (by omega:b<H.size)];simp[a,e,f]
def oU{Dd:Nat->Prop}(h:¬(b<n/\¬Dd b/\b≠E)):(zZ V Dd Dd' E n H v)[b]?=(v.heap[b]?).map (fS V (Dd' b)):=by
 unfold zZ;rw[adt];congr 1;funext o;rw[Zr h]
def trB{GL Dd:Nat->Prop}{q:AK}(h:Tr (mdC GL Dd) q w)(s:(w:Nat)<=v)(f:∀b,b<(w:Nat)->¬Dd b->b≠E->v.heap[b]?=w.heap[b]?)
 (u:∀b,Dd' b->b<(v:Nat))(i:∀b,Dd' b->¬(b<(w:Nat)/\¬Dd b/\b≠E))(T:Nat->Question->Nat):Tr (mdC GL Dd') (aK (zZ (FV bq GL) Dd Dd' E w q.heap v) T v) v:=by
 refine Tr.of T (by simp[zZ]) (λb o e=>?_) u;by_cases a:b<(w:Nat)/\¬Dd b/\b≠E
 .rw[zY h.size.symm s a.1 a.2.1 a.2.2]at e;obtain⟨j,k,x,y⟩:=h.blk _ _ e;refine⟨j,(f b a.1 a.2.1 a.2.2).trans k,x,λr g=>?_,λc t z l=>?_⟩
  .rcases y r g with p|p
   .exact(h.obj _ _ r e g).imp (λA=>⟨p,A⟩) id
   exact .inr p
  subst l;exact⟨h.val _ _ _ _ e,λB=>absurd a (i b B)⟩
 rw[oU a]at e;obtain⟨j,k,rfl⟩:=ZX.1 e;refine⟨j,k,DR _ _ _,λ_ g=>zV (m:=mdC GL Dd') g,λc t z l=>tz l⟩
def wJ:yd prog J5 true:=by kernel_rfl
def cxC(GL Dd:Nat->Prop):Cx prog (mdC GL Dd) glC true:=by
 refine⟨Cw GL Dd,(pw wJ).1,(pw wJ).2,λ_ fn a b h=>?_,λ_ _=>Iff.rfl⟩;cases h with
 |sc h=>cases h
 |fn e f g=>exact .inl ⟨_,rfl,e,f,g⟩
 |yl h=>exact .inr ⟨_,rfl,rfl,rfl,h⟩
end T
section
open Go.RowKit Go.Shelf
def tt{P:E2}{cs:List K0}:∀(a:List Nat)(fr:K0)(w:AK),fr.mode=.returning->fr.defers=a.map mark->jr 0 w a->
 ∃w',Steps P (lone fr cs w) (lone {fr with defers:=[]} cs w')/\(w':Nat)=w/\w'.os=w.os/\w'.tape=w.tape/\w'.output=w.output/\∀b,b∉a->w'.heap[b]?=w.heap[b]?
 |[],fr,w,g,f,_=>by
  refine⟨w,?_,rfl,rfl,rfl,rfl,λ_ _=>rfl⟩;have:{fr with defers:=[]}=fr:=by
   cases fr;simp only[adY]at f;subst f;rfl
  rw[this];exact .refl _ _
 |D::a,fr,w,g,f,h=>by
  have j:=step_collected (P:=P) (fr:=fr) (cs:=cs) (w:=w) (d:=mark D) (r:=D) (ds:=a.map mark) (calls:=[]) (by rw[g];simp) f rfl (run_takeDeferred (h.2 D ZJ).2);have c:=List.nodup_cons.1 h.1;obtain⟨w',k,l,m,n,o,p⟩:=tt (P:=P) (cs:=cs) a {fr with defers:=[]++a.map mark} (w.putObj D (.deferred none)) g rfl ⟨c.2,λD' e=>⟨Z7 _,by
   rw[World.putObj_heap_other]
   .exact(h.2 D' (aai _ e)).2
   rintro rfl;exact c.1 e⟩⟩
  refine⟨w',.head j k,l.trans (by simp[World.putObj]),m,n,o,λb i=>?_⟩;rw[ZM,not_or]at i;rw[p b i.2,World.putObj_heap_other i.1]
end
section
open Go.RowKit Go.Shelf
variable{A:Option Es}{Ds:List Nat}{E f:Nat}{a:Act}{l:List (Nat×Aq)}{ss:List Stp}{tds:List TD}{u4:Aq}{v w:AK}
def p9{α:Type}[Inhabited α](t:Array α){n:Nat}(h:t.size=n):t=((List.range n).map λi=>t.getD i default).toArray:=by
 apply Array.ext
 .simp[h]
 intro i b c;simp[b]
def rE(f:Nat->Aq):Array Aq:=(f 0::f 1::f 2::f 3::f 4::f 5::f 6::f 7::f 8::f 9::f 10::f 11::f 12::f 13::f 14::f 15::f 16::f 17::f 18::f 19::f 20::f 21::f 22::f 23::f 24::f 25::f 26::f 27::f 28::f 29::f 30::f 31::f 32::f 33::f 34::f 35::f 36::f 37::f 38::f 39::f 40::f 41::f 42::f 43::f 44::f 45::f 46::f 47::f 48::f 49::f 50::f 51::f 52::f 53::f 54::f 55::f 56::f 57::f 58::f 59::f 60::f 61::f 62::f 63::f 64::f 65::f 66::f 67::f 68::f 69::f 70::f 71::f 72::f 73::f 74::f 75::f 76::f 77::f 78::f 79::f 80::f 81::f 82::f 83::f 84::f 85::f 86::f 87::f 88::f 89::f 90::f 91::f 92::f 93::f 94::f 95::f 96::f 97::f 98::f 99::f 100::f 101::f 102::f 103::f 104::f 105::f 106::f 107::f 108::f 109::f 110::f 111::f 112::f 113::f 114::f 115::f 116::f 117::f 118::f 119::f 120::f 121::f 122::f 123::f 124::f 125::f 126::f 127::f 128::f 129::f 130::f 131::f 132::f 133::f 134::f 135::f 136::f 137::f 138::f 139::f 140::f 141::f 142::f 143::f 144::f 145::f 146::f 147::f 148::f 149::f 150::f 151::f 152::f 153::[]).toArray
def PG(t:Array Aq)(h:t.size=154):∃f:Nat->Aq,t=rE f/\∀i x,t[i]?=some x->f i=x:=
 ⟨λi=>t.getD i default,(p9 t h).trans rfl,λi x b=>by simp[aay,b]⟩
def At(l:List (Nat×Aq))(Ds:List Nat)(a:Act):Prop:=a.tmps.size=154/\a.defers=Ds.map mark/\∀p,p∈l->a.tmps[p.1]?=p.2
def At.lit(h:At l Ds a):∃f:Nat->Aq,a=⟨rE f,Ds.map mark⟩/\∀p,p∈l->f p.1=p.2:=by
 obtain⟨t,ds⟩:=a;obtain⟨b,rfl,c⟩:=h;obtain⟨f,e,d⟩:=PG t b;exact⟨f,by rw[<-e],λp g=>d _ _ (c p g)⟩
def OV{c:Code}(h:∀Q:Exit->Act->AK->Prop,(∀a',At l Ds a'->Q .normal a' w)->c.wp prog Q a w):c.wp prog (λe a' W=>e=.normal/\At l Ds a'/\W=w) a w:=h _ λ_ h=>⟨rfl,h,rfl⟩
def At.sub{l':List (Nat×Aq)}(h:At l Ds a)(b:∀p,p∈l'->p∈l):At l' Ds a:=⟨h.1,h.2.1,λp c=>h.2.2 p (b p c)⟩
def At.ev(h:At l Ds a){k:Nat}{x:Aq}(b:(k,x)∈l):a.eval (.tmp k)=x:=by
 have:=h.2.2 _ b;simp[Act.eval,this]
def uw(E:Nat)(w:AK)(A:Option Es)(ss:List Stp):Prop:=
 ∀(i:Nat)(s:Stp),ss[i]?=s->∃a A' c,A=some a/\a.spot=none/\a.block<E/\w (aD a.block (a.off+i*3))=some (.bool s.batch)/\w (aD a.block (a.off+i*3+1))=iI s.stop/\w (aD a.block (a.off+i*3+2))=some (.slice A' s.ls c)/\
  ∀W:AK,(∀b,b<E->W.heap[b]?=w.heap[b]?)->(w:Nat)<=W->bh W A' 5 (s.ls.map (·.map gvC))
def uw.at(h:uw E w A ss):Oa w A ss:=λi s c=>by
 obtain⟨a,A',b,d,e,n,g,j,k,m⟩:=h i s c;exact⟨a,A',b,d,e,g,j,k,m w (λ_ _=>rfl) (Zo _)⟩
def uw.keep(h:uw E w A ss)(j:∀b,b<E->v.heap[b]?=w.heap[b]?)(m:(w:Nat)<=v):uw E v A ss:=λi s g=>by
 obtain⟨a,A',c,n,p,k,q,r,t,u⟩:=h i s g;have e:∀o,v (aD a.block o)=w (aD a.block o):=λo=>ZW (j _ k);exact⟨a,A',c,n,p,k,(e _).trans q,(e _).trans r,(e _).trans t,λW x g=>u W (λb d=>(x b d).trans (j b d)) (Zz m g)⟩
structure L22(E:Nat)(A:Option Es)(ss:List Stp)(tds:List TD)(f:Nat)(u4:Aq)(Ds:List Nat)(w:AK):Prop where
 inp:uw E w A ss
 tab:ga w
 lt:E<w
 pos:E≠0
 e:w (aD E 0)=iH f
 ez:w.frozen? (aD E 0)=false
 fl:f<256
 out:kq w (E+1) u4 tds
 nil:tds=[]->u4=.slice none 0 0
 pile:jr E w Ds
def L22.eu(h:L22 E A ss tds f u4 Ds w):∀g,u4.ownBlock=some g->E<g/\g<(w:Nat):=λg b=>by
 obtain⟨ps,_,c,_⟩:=h.out;exact ak c b
def ga.low(h:ga w)(d:E≠0)(c:∀b,b<E->v.heap[b]?=w.heap[b]?):ga v:=by
 obtain⟨fz,h⟩:=h;exact⟨fz,(c 0 oM).trans h⟩
structure M22(E:Nat)(A:Option Es)(ss:List Stp)(tds:List TD)(f:Nat)(u4:Aq)(Ds:List Nat)(s:Stp)(S Tb B₀:Nat)(u0 u8:Aq)(A':Option Es)(cap':Nat)(w:AK):Prop where
 l:L22 E A ss tds f u4 Ds w
 ES:E<S
 ST:S<Tb
 TB:Tb<B₀
 Bw:B₀<=w
 S0:w (aD S 0)=some (.bool s.batch)
 S1:w (aD S 1)=iI s.stop
 S2:w (aD S 2)=some (.slice A' s.ls cap')
 T0:w (aD Tb 0)=u0
 T1:w (aD Tb 1)=some (.bool true)
 T2:w (aD Tb 2)=qB 0
 Tz:∀o,w.frozen? (aD Tb o)=false
 Tt:w.shape? Tb=some (45,3)
 ls:cH w B₀ u8 gvC s.ls
 low:∀W:AK,(∀b,b<E->W.heap[b]?=w.heap[b]?)->(w:Nat)<=W->bh W A' 5 (s.ls.map (·.map gvC))
 u4b:∀g,u4.ownBlock=some g->g<S
def bI(E n i cap:Nat)(A:Option Es)(u4:Aq):List (Nat×Aq):=[(3,pT E 0),(4,u4),(21,.slice A n cap),(22,iI n),(23,iI i)]
def fM(E n i cap:Nat)(A:Option Es)(u4:Aq)(S b:Nat)(c:Aq):List (Nat×Aq):=[(3,pT E 0),(4,u4),(6,pT S 0),(7,pT b 0),(8,c),(21,.slice A n cap),(22,iI n),(23,iI i)]
def KS:nM=.seq DN (.seq DM (.seq DL (.seq EN gn))):=by kernel_rfl
def L22.keep(h:L22 E A ss tds f u4 Ds w)(d:Np w w v):L22 E A ss tds f u4 Ds v:=by
 have j:=h.lt;refine⟨h.inp.keep (λb i=>d.block b oM) d.size,h.tab.low h.pos λb i=>d.block b oM,by have:=d.size;omega,h.pos,(d.cell (p:=aD E 0) j).trans h.e,(d.frozen (p:=aD E 0) j).trans h.ez,h.fl,h.out.keep d.size λg c t z _ _ m=>d.block g (Zq.1 m).1,h.nil,h.pile.keep λD _ k=>(d.block D (Zq.1 k).1).trans k⟩
structure N5(E:Nat)(A:Option Es)(ss:List Stp)(tds:List TD)(f:Nat)(u4:Aq)(Ds:List Nat)(s:Stp)(S:Nat)(A':Option Es)(cap':Nat)(w:AK):Prop where
 l:L22 E A ss tds f u4 Ds w
 ES:E<S
 Sw:S<w
 S0:w (aD S 0)=some (.bool s.batch)
 S1:w (aD S 1)=iI s.stop
 S2:w (aD S 2)=some (.slice A' s.ls cap')
 low:∀W:AK,(∀b,b<E->W.heap[b]?=w.heap[b]?)->(w:Nat)<=W->bh W A' 5 (s.ls.map (·.map gvC))
 u4b:∀g,u4.ownBlock=some g->g<S
structure N6(E:Nat)(A:Option Es)(ss:List Stp)(tds:List TD)(f:Nat)(u4:Aq)(Ds:List Nat)(s:Stp)(S Tb:Nat)(A':Option Es)(cap':Nat)(w:AK):Prop where
 n:N5 E A ss tds f u4 Ds s S A' cap' w
 ST:S<Tb
 Tw:Tb<w
 T0:w (aD Tb 0)=some (.slice none 0 0)
 T1:w (aD Tb 1)=some (.bool true)
 T2:w (aD Tb 2)=qB 0
 Tz:∀o,w.frozen? (aD Tb o)=false
 Tt:w.shape? Tb=some (45,3)
section
variable{E n i cap:Nat}{A:Option Es}{ss:List Stp}{tds:List TD}{f:Nat}{u4:Aq}{Ds:List Nat}{s:Stp}{S Tb:Nat}{A':Option Es}{cap':Nat}{a:Act}{w v:AK}
def N5.keep(h:N5 E A ss tds f u4 Ds s S A' cap' w)(c:Np w w v):N5 E A ss tds f u4 Ds s S A' cap' v:=by
 have d:=h.Sw;have j:=c.size;have k:=h.l.lt;exact⟨h.l.keep c,h.ES,oM,(c.cell (p:=aD S 0) d).trans h.S0,(c.cell (p:=aD S 1) d).trans h.S1,(c.cell (p:=aD S 2) d).trans h.S2,λW g m=>h.low W (λb e=>(g b e).trans (c.block b oM)) oM,h.u4b⟩
def N6.keep(h:N6 E A ss tds f u4 Ds s S Tb A' cap' w)(b:Np w w v):N6 E A ss tds f u4 Ds s S Tb A' cap' v:=by
 have c:=h.Tw;have d:=b.size;refine⟨h.n.keep b,h.ST,oM,(b.cell (p:=aD Tb 0) c).trans h.T0,(b.cell (p:=aD Tb 1) c).trans h.T1,(b.cell (p:=aD Tb 2) c).trans h.T2,λo=>(b.frozen (p:=aD Tb o) c).trans (h.Tz o),?_⟩;unfold World.shape?;rw[b.block Tb c];exact h.Tt
def N5.same(h:N5 E A ss tds f u4 Ds s S A' cap' w)(e:v.heap=w.heap):N5 E A ss tds f u4 Ds s S A' cap' v:=by
 have d:∀a,v a=w a:=λa=>ZW (by rw[e]);have c:=h.l;exact⟨⟨c.inp.keep (λ_ _=>by rw[e]) (aaE (by rw[e])),c.tab.low c.pos (λ_ _=>by rw[e]),by rw[e];exact c.lt,c.pos,(d _).trans c.e,(aak (a:=aD E 0) (by rw[e])).trans c.ez,c.fl,c.out.keep (aaE (by rw[e])) λ_ _ _ _ _ _ _=>by rw[e],c.nil,c.pile.keep λ_ _ j=>by rw[e];exact j⟩,h.ES,by rw[e];exact h.Sw,(d _).trans h.S0,(d _).trans h.S1,(d _).trans h.S2,λW k m=>h.low W (λb g=>(k b g).trans (by rw[e])) (by rw[<-e];exact m),h.u4b⟩
def N6.same(h:N6 E A ss tds f u4 Ds s S Tb A' cap' w)(e:v.heap=w.heap):N6 E A ss tds f u4 Ds s S Tb A' cap' v:=by
 have b:∀a,v a=w a:=λa=>ZW (by rw[e]);refine⟨h.n.same e,h.ST,by rw[e];exact h.Tw,(b _).trans h.T0,(b _).trans h.T1,(b _).trans h.T2,λo=>(aak (a:=aD Tb o) (by rw[e])).trans (h.Tz o),?_⟩;unfold World.shape?;rw[e];exact h.Tt
def SA(H:At (bI E n i cap A u4) Ds a)(h:L22 E A ss tds f u4 Ds w)(o:ss[i]?=s)(Z:i<n):
 DN.wp prog (λe a' w'=>e=.normal/\(∃S A' cap',At ((6,pT S 0)::bI E n i cap A u4) Ds a'/\N5 E A ss tds f u4 Ds s S A' cap' w'/\(w:Nat)<=S)/\∀b,b<E->w'.heap[b]?=w.heap[b]?) a w:=by
 suffices q:∀Q:Exit->Act->AK->Prop,(∀a'(ad:Es)(A':Option Es)(cap':Nat),A=some ad->w (aD ad.block (ad.off+i*3+2))=some (.slice A' s.ls cap')->At ((6,pT w 0)::bI E n i cap A u4) Ds a'->Q .normal a' (aC w #[.bool s.batch,iI s.stop,.slice A' s.ls cap'] 37))->DN.wp prog Q a w by
  refine q _ λa' ad A' cap' e1 e2 I=>⟨rfl,?_⟩;have J:=h.lt;have d:Np w w (aC w #[.bool s.batch,iI s.stop,.slice A' s.ls cap'] 37):=(Zx _ _).alloc (Zo _) _;have j:∀W:AK,(∀b,b<E->W.heap[b]?=w.heap[b]?)->(w:Nat)<=W->bh W A' 5 (s.ls.map (·.map gvC)):=by
   obtain⟨r,C,c,K,g2,g3,g4,g5,L,M⟩:=h.inp i s o;(obtain rfl:r=ad:=by rw[K]at e1;exact ZO e1);rw[L]at e2;simp only[Zt,abC]at e2;obtain⟨rfl,_,rfl⟩:=e2;exact M
  refine⟨⟨w,A',cap',I,⟨h.keep d,J,sM,by rw[ZK _ _ _ _ rfl];rfl,by rw[ZK _ _ _ _ rfl];rfl,by rw[ZK _ _ _ _ rfl];rfl,λW N O=>j W (λb k=>(N b k).trans (d.block b oM)) (by simp at O;omega),λg P=>(h.eu g P).2⟩,Zo _⟩,λb k=>d.block b oM⟩
 intro Q t;replace t:=Zp t;obtain⟨⟨u,x,R⟩,C,c,rfl,m,c0,T,D,_⟩:=h.inp.at i s o;simp only at m c0 T D;subst m;have U:(aD u x:Es).add (i*3)=aD u (x+i*3):=by simp[Addr.add]
 have V:(i:Int)<n:=oM;obtain⟨fv,rfl,F⟩:=H.lit;unfold rE;simp only[bI,aaj,ZG,aaS,aa3,and_true]at F;obtain⟨X,Y,y,z,B⟩:=F;rw[X,Y,y,z,B];clear h o;conv=>arg 2;whnf
 go_wp2
 refine t.out _ (aD u x) C c rfl D ⟨rfl,rfl,λp G=>?_⟩;simp only[bI,fM,ZM,ZG,aaV]at G;rcases G with rfl|rfl|rfl|rfl|rfl|rfl<;>rfl
def Sz(t:At ((6,pT S 0)::bI E n i cap A u4) Ds a)(d:N5 E A ss tds f u4 Ds s S A' cap' w):
 DM.wp prog (λe a' w'=>e=.normal/\(∃Tb,At ((7,pT Tb 0)::(6,pT S 0)::bI E n i cap A u4) Ds a'/\N6 E A ss tds f u4 Ds s S Tb A' cap' w')/\∀b,b<E->w'.heap[b]?=w.heap[b]?) a w:=by
 suffices g:∀Q:Exit->Act->AK->Prop,(∀a',At ((7,pT w 0)::(6,pT S 0)::bI E n i cap A u4) Ds a'->Q .normal a' (aC w #[.slice none 0 0,.bool true,qB 0] 45))->DM.wp prog Q a w by
  refine g _ λa' u=>⟨rfl,?_⟩;have C:=d.l.lt;have c:Np w w (aC w #[.slice none 0 0,.bool true,qB 0] 45):=(Zx _ _).alloc (Zo _) _;refine⟨⟨w,u,⟨d.keep c,d.Sw,sM,by rw[ZK _ _ _ _ rfl];rfl,by rw[ZK _ _ _ _ rfl];rfl,by rw[ZK _ _ _ _ rfl];rfl,λo=>o8 _ _ _,?_⟩⟩,λb x=>c.block b oM⟩;unfold World.shape?;rw[World.alloc_heap_new];rfl
 intro Q h;replace h:=Zp h;obtain⟨D,rfl,q⟩:=t.lit;unfold rE;simp only[bI,aaj,ZG,aaS,aa3,and_true]at q;obtain⟨y,z,B,j,k,m⟩:=q;rw[z,B,y,j,k,m];clear d;conv=>arg 2;whnf
 go_wp2
 refine h.out _ ⟨rfl,rfl,λp r=>?_⟩;simp only[bI,fM,ZM,ZG,aaV]at r;rcases r with rfl|rfl|rfl|rfl|rfl|rfl|rfl<;>rfl
def Sx(z:At ((7,pT Tb 0)::(6,pT S 0)::bI E n i cap A u4) Ds a)(d:N6 E A ss tds f u4 Ds s S Tb A' cap' w)(C:(s.ls:Nat)<=1048576)(g:∀rs,rs∈s.ls->(rs:Nat)<=1048576):
 DL.wp prog (λe a' w'=>e=.normal/\(∃B₀ u,At (fM E n i cap A u4 S Tb u) Ds a'/\M22 E A ss tds f u4 Ds s S Tb B₀ (.slice none 0 0) u A' cap' w')/\∀b,b<E->w'.heap[b]?=w.heap[b]?) a w:=by
 suffices k:∀Q:Exit->Act->AK->Prop,(∀a'(v:Aq)(W:AK),cH W w v gvC s.ls->Np w w W->At (fM E n i cap A u4 S Tb v) Ds a'->Q .normal a' W)->DL.wp prog Q a w by
  refine k _ λa' v W j h D=>⟨rfl,?_⟩;have M:=d.n.l.lt;have c:=d.keep h;refine⟨⟨w,v,D,⟨c.n.l,c.n.ES,c.ST,d.Tw,h.size,c.n.S0,c.n.S1,c.n.S2,c.T0,c.T1,c.T2,c.Tz,c.Tt,j,c.n.low,c.n.u4b⟩⟩,λb F=>h.block b oM⟩
 intro Q m;replace m:=Zp m;have o:=Zp (Dh A' cap' s.ls C (λi rs G=>g rs (aae G)) w (d.n.low w (λ_ _=>rfl) (Zo _)));have N:=d.n.S2;obtain⟨O,rfl,x⟩:=z.lit;unfold rE;simp only[bI,aaj,ZG,aaS,aa3,and_true]at x;obtain⟨H,I,J,K,q,r,t⟩:=x;rw[J,K,I,H,q,r,t];clear d g;conv=>arg 2;whnf
 go_wp2_with(go_at_call 38;refine o.out.mono ?_;rintro e L⟨v,rfl,j,h⟩)
 obtain⟨P,R,rfl,_⟩:=gq eG j
 go_wp2
 refine m.out _ _ L j h ⟨rfl,rfl,λp y=>?_⟩;simp only[bI,fM,ZM,ZG,aaV]at y;rcases y with rfl|rfl|rfl|rfl|rfl|rfl|rfl|rfl<;>rfl
end
end
section
open Go.RowKit Go.Shelf
variable{w:AK}
def IG:Code:=match EN with|.seq _ (.cond _ c _)=>c|_=>.skip
def dW:Array Oper:=match IG with|.region _ o _=>o|_=>#[]
def K8:EN=.seq IH (.cond (.tmp 32) IG .skip):=by kernel_rfl
def IF:IG=.region 9 dW false:=by kernel_rfl
def jr.app{E B:Nat}{d g:List Nat}(f:jr B w d)(h:jr E w g)(i:∀D,D∈g->D<B)(j:E<=B):jr E w (d++g):=by
 refine⟨List.nodup_append.2 ⟨f.1,h.1,λa k b l e=>?_⟩,λD c=>?_⟩
 .have:=(f.2 a k).1;have:=i b l;omega
 rcases aci.1 c with c|c
 .exact⟨Zz j (f.2 D c).1,(f.2 D c).2⟩
 exact h.2 D c
section
variable{E n i cap:Nat}{A:Option Es}{ss:List Stp}{tds:List TD}{f:Nat}{u4:Aq}{Ds:List Nat}{s:Stp}{S Tb B₀:Nat}{u0 u8:Aq}{A':Option Es}{cap':Nat}{w:AK}{a:Act}
def Sv{h:Bool}(l:At (fM E n i cap A u4 S Tb u8) Ds a)(u:cF w S 0 (.bool h)):IH.wp prog (λe a' W=>e=.normal/\At ((32,.bool h)::fM E n i cap A u4 S Tb u8) Ds a'/\W=w) a w:=by
 refine OV λQ b=>?_;replace b:=Zp b;obtain⟨v,rfl,j⟩:=l.lit;unfold rE;simp only[fM,aaj,ZG,aaS,aa3,and_true]at j;obtain⟨m,o,q,r,t,c,d,g⟩:=j;rw[m,o,q,r,t,c,d,g];conv=>arg 2;whnf
 go_wp2
 refine b.out _ ⟨rfl,rfl,λp k=>?_⟩;simp only[bI,fM,ZM,ZG,aaV]at k;rcases k with rfl|rfl|rfl|rfl|rfl|rfl|rfl|rfl|rfl<;>rfl
def Pf(k:At (bI E n i cap A u4) Ds a)(o:i<1048576):tj.wp prog (λe a' W=>e=.normal/\At (bI E n (i+1) cap A u4) Ds a'/\W=w) a w:=by
 refine OV λQ b=>?_;replace b:=Zp b;obtain⟨q,rfl,h⟩:=k.lit;unfold rE;simp only[bI,aaj,ZG,aaS,aa3,and_true]at h;obtain⟨l,m,c,d,g⟩:=h;rw[l,m,c,d,g];conv=>arg 2;whnf
 go_wp2
 refine b.out _ ⟨rfl,rfl,λp j=>?_⟩;simp only[bI,fM,ZM,ZG,aaV]at j;rcases j with rfl|rfl|rfl|rfl|rfl<;>rfl
def Ot(k:At (bI E n i cap A u4) Ds a):zt.wp prog (λe a' W=>e=.normal/\At ((24,.bool (decide (i<n)))::bI E n i cap A u4) Ds a'/\W=w) a w:=by
 refine OV λQ b=>?_;replace b:=Zp b;obtain⟨o,rfl,h⟩:=k.lit;unfold rE;simp only[bI,aaj,ZG,aaS,aa3,and_true]at h;obtain⟨l,m,c,d,g⟩:=h;rw[l,m,c,d,g];conv=>arg 2;whnf
 go_wp2
 refine b.out _ ⟨rfl,rfl,λp j=>?_⟩;simp only[bI,fM,ZM,ZG,aaV]at j;rcases j with rfl|rfl|rfl|rfl|rfl|rfl<;>rfl
def eT{D:Nat}(b:w.heap[D]?=some (.deferred (some []))){o:Nat}{x:Aq}:w (aD D o)≠some x:=by
 unfold World.cell?;simp[b]
def uN(U:At (fM E n i cap A u4 S Tb u8) Ds a)(d:M22 E A ss tds f u4 Ds s S Tb B₀ (.slice none 0 0) u8 A' cap' w)(V:s.batch=false)(X:(s.ls:Nat)<=1048576)(G:∀rs,rs∈s.ls->(rs:Nat)<=1048576)
 (x:LR->Nat×Nat×Bool)(O:∀r,(x r).2.1<256)(H:∀rs,rs∈s.ls->∀r,r∈rs->∀W,aT W->Bf prog 29 #[REC r.o r.m r.a r.b r.c] W (ai (x r).1 (x r).2.1 (x r).2.2 W))(I:(tds:Nat)<=1048576):
 gn.wp prog (λe a' W=>e=.normal/\∃t k,At (bI E n i cap A t) (k++Ds) a'/\L22 E A ss (tds++[⟨told x s.stop s.ls,dK x s.stop f s.ls⟩]) (dK x s.stop f s.ls) t (k++Ds) W/\(∀b,b<E->W.heap[b]?=w.heap[b]?)/\∀D,D∈k->(w:Nat)<=D) a w:=by
 obtain⟨fv,rfl,P⟩:=U.lit;unfold rE;simp only[fM,aaj,ZG,aaS,aa3,and_true]at P;obtain⟨Y,Z,h6,h7,h8,J,K,L⟩:=P;rw[Y,Z,h6,h7,h8,J,K,L];have j:=d.l;have g1:=d.ES;have g2:=d.ST;have g3:=d.TB;have g4:=d.Bw;have u:=d.S0;rw[V]at u;refine xw E S Tb (E+1) B₀ u4 u8 A' cap' s.ls X G d.ls (λW hW hz=>d.low W hW hz) oM j.pos d.TB oM oM d.ES oM d.Bw x O f j.fl H s.stop u d.S1 d.S2 (kz j.tab) d.T0 d.T1 d.T2 (d.Tz 0) (d.Tz 1) (d.Tz 2) j.e j.ez tds I j.out oM d.Tt (λg M=>by have:=d.u4b g M;omega) (λg M=>by have:=(j.eu g M).1;omega) oM ?_;intros;rename_i k W v4 Q F k3 k4 k5;have N:∀b,b<E->W.heap[b]?=w.heap[b]?:=λb hb'=>F.block b oM (by
  rintro(e|e|e)
  .omega
  .omega
  have:=(j.eu b e).1;omega)
 have v:∀D,D∈Ds->W.heap[D]?=some (.deferred (some []))/\D<(w:Nat):=λD q=>by
  have y:=(j.pile.2 D q).2;have C:=(Zq.1 y).1;refine⟨(F.block D C ?_).trans y,C⟩;rintro(e|e|e)
  .subst e;exact eT y j.e
  .subst e;exact eT y d.T1
  obtain⟨ps,_,h1,_⟩:=j.out;obtain⟨c,z,R⟩:=dF h1 e;rw[y]at R;cases R
 refine⟨rfl,v4,k,⟨rfl,sM,λp T=>?_⟩,⟨j.inp.keep N F.size,j.tab.low j.pos N,by have:=F.size;have:=j.lt;omega,j.pos,k3,k4,oe O _ _ j.fl,k5,(λh=>by simp at h),?_⟩,N,λD q=>(Q.2 D q).1⟩
 .simp only[bI,ZM,ZG,aaV]at T;rcases T with rfl|rfl|rfl|rfl|rfl<;>rfl
 exact Q.app ⟨j.pile.1,λD q=>⟨(j.pile.2 D q).1,(v D q).1⟩⟩ (λD q=>(v D q).2) (by have:=j.lt;omega)
def uO(M:At (fM E n i cap A u4 S Tb u8) Ds a)(d:M22 E A ss tds f u4 Ds s S Tb B₀ u0 u8 A' cap' w)(N:s.batch)(O:(s.ls:Nat)<=1048576)(x:∀rs,rs∈s.ls->(rs:Nat)<=1048576){k:List (List (Nat×Nat×Bool))}(P:cY w (E+1) u0 k)(y:(tds:Nat)<=1048576):
 gn.wp prog (λe a' W=>e=.normal/\∃o,At (bI E n i cap A o) Ds a'/\L22 E A ss (tds++[⟨k,f⟩]) f o Ds W/\(∀b,b<E->W.heap[b]?=w.heap[b]?)) a w:=by
 obtain⟨fv,rfl,J⟩:=M.lit;unfold rE;simp only[fM,aaj,ZG,aaS,aa3,and_true]at J;obtain⟨Q,R,T,U,V,C,F,G⟩:=J;rw[Q,R,T,U,V,C,F,G];have j:=d.l;have g1:=d.ES;have g2:=d.ST;have g3:=d.TB;have g4:=d.Bw;have q:=d.S0;rw[N]at q;refine xx E S Tb (E+1) B₀ u4 u8 A' cap' s.ls O x d.ls (d.low w (λ_ _=>rfl) (Zo _)) q d.S2 u0 ⟨k,f⟩ d.T0 d.T1 d.T2 (d.Tz 1) (d.Tz 2) j.e j.fl tds y j.out P d.Tt (λg X=>by have:=d.u4b g X;omega) oM ?_;intros;rename_i W Y t Z;have r:∀b,b<=E->W.heap[b]?=w.heap[b]?:=λb m=>t.block b oM (by
  rintro(e|e)
  .omega
  have:=(j.eu b e).1;omega)
 have H:∀D,D∈Ds->W.heap[D]?=some (.deferred (some [])):=λD u=>by
  have v:=(j.pile.2 D u).2;have I:=(Zq.1 v).1;refine(t.block D I ?_).trans v;rintro(e|e)
  .subst e;exact eT v d.T1
  obtain⟨ps,_,h1,_⟩:=j.out;obtain⟨c,z,K⟩:=dF h1 e;rw[v]at K;cases K
 refine⟨rfl,Y,⟨rfl,rfl,λp L=>?_⟩,⟨j.inp.keep (λb m=>r b oM) t.size,j.tab.low j.pos (λb m=>r b oM),by have:=t.size;have:=j.lt;omega,j.pos,(ZW (a:=aD E 0) (r E (Zo _))).trans j.e,(aak (a:=aD E 0) (r E (Zo _))).trans j.ez,j.fl,Z,(λh=>by simp at h),⟨j.pile.1,λD u=>⟨(j.pile.2 D u).1,H D u⟩⟩⟩,λb m=>r b oM⟩;simp only[bI,ZM,ZG,aaV]at L;rcases L with rfl|rfl|rfl|rfl|rfl<;>rfl
def afc(d:At [(4,u4)] Ds a):pj.wp prog (λe a' W=>e=.ret/\(a'.tmps[2]?=u4/\a'.defers=Ds.map mark)/\W=w) a w:=by
 suffices g:∀Q:Exit->Act->AK->Prop,(∀t,t[2]?=u4->Q .ret ⟨t,Ds.map mark⟩ w)->pj.wp prog Q a w from g _ λt h=>⟨rfl,⟨h,rfl⟩,rfl⟩
 intro Q b;replace b:=Zp b;obtain⟨j,rfl,c⟩:=d.lit;unfold rE;simp only[aaj,ZG,aaS,aa3,and_true]at c;rw[c];conv=>arg 2;whnf
 go_wp2
 exact b.out _ rfl
def O2(g:At [(4,u4)] Ds a){b:K0}{cs:List K0}{c:K0}(h:b.fn=22)(j:b.kind=.normal)(k:jr 0 w Ds):
 ∃w',Steps prog (lone (b.at a [.code pj]) (c::cs) w) (lone (c.finish u4) cs w')/\(w':Nat)=w/\w'.os=w.os/\w'.tape=w.tape/\w'.output=w.output/\∀b,b∉Ds->w'.heap[b]?=w.heap[b]?:=by
 obtain⟨e,a',w',⟨rfl,⟨l,m⟩,rfl⟩,d⟩:=afc (w:=w) g b [] (c::cs);obtain⟨todo,o⟩:=d;obtain⟨p,q,r,t,u,v,x⟩:=tt (P:=prog) (cs:=c::cs) Ds {b.at a' todo with mode:=.returning} _ rfl m k;refine⟨p,o.trans (q.trans (.one (ab9 ?_))),r,t,u,v,x⟩;refine⟨rfl,rfl,?_,f22,?_,?_⟩
 .exact j
 .show prog.funcs[b.fn]?=_;rw[h];exact func22
 show(results f22 a'.tmps).run _ _=_;simp[results,f22,l]
end
end
section
open Go.RowKit Go.Shelf
variable{B:Nat}{W:AK}
def Ge:dW.toList.drop 2=[{dst:=some 35,op:=.fieldAddr 45 (.tmp 7) 0,type:=0,pos:= "plain.go:37",after:=#[{on:=0,ground:=.phase},{on:=1,ground:=.phase}],guard:=none},{dst:=none,op:=.store 43 (.tmp 35) (.tmp 34),type:=0,pos:= "plain.go:37",after:=#[{on:=2,ground:=.data},{on:=1,ground:=.data},{on:=1,ground:=.chain},{on:=0,ground:=.phase},{on:=1,ground:=.phase}],guard:=none}]:=by kernel_rfl
def vS:(dW.toList:Nat)=4:=by kernel_rfl
section
variable{E n i cap:Nat}{A:Option Es}{ss:List Stp}{tds:List TD}{f:Nat}{u4:Aq}{Ds:List Nat}{s:Stp}{S Tb B₀:Nat}{u0 u8:Aq}{A':Option Es}{cap':Nat}{w:AK}{a:Act}
def M22.told(h:M22 E A ss tds f u4 Ds s S Tb B₀ u0 u8 A' cap' w)(u:Aq):M22 E A ss tds f u4 Ds s S Tb B₀ u u8 A' cap' (w.setCell (aD Tb 0) u):=by
 have y:=h.ES;have C:=h.ST;have F:=h.TB;have G:=h.Bw;have d:=h.l;have v:((w.setCell (aD Tb 0) u):Nat)=w:=by simp[World.setCell]
 have k:∀b,b≠Tb->(w.setCell (aD Tb 0) u).heap[b]?=w.heap[b]?:=λb k=>fL k;have r:∀b,b<E->(w.setCell (aD Tb 0) u).heap[b]?=w.heap[b]?:=λb m=>k b oM;have p:∀o,(w.setCell (aD Tb 0) u) (aD S o)=w (aD S o):=λo=>ZW (a:=aD S o) (k S oM);refine⟨⟨d.inp.keep r oM,d.tab.low d.pos r,by rw[v];exact d.lt,d.pos,(ZW (a:=aD E 0) (k E oM)).trans d.e,(aak (a:=aD E 0) (k E oM)).trans d.ez,d.fl,d.out.keep oM λg c t z _ q H=>k g ?_,d.nil,d.pile.keep λD _ x=>(k D ?_).trans x⟩,y,C,F,by rw[v];exact G,(p 0).trans h.S0,(p 1).trans h.S1,(p 2).trans h.S2,World.cell?_setCell_same' _ _ _ (by rw[h.T0];rfl),(pS dC).trans h.T1,(pS dC).trans h.T2,λo=>?_,vy.trans h.Tt,?_,λW I J=>h.low W (λb m=>(I b m).trans (r b m)) oM,h.u4b⟩
 .rintro rfl;have j:=h.Tt;unfold World.shape? at j;rw[H]at j;simp only[Zt,abF]at j;rcases q with q|q|q
  .exact absurd (q.symm.trans j.1) dC
  .exact absurd (q.symm.trans j.1) dC
  have:=h.u4b _ q;omega
 .rintro rfl;exact eT x h.T1
 .rw[<-h.Tz o];simp[go_sem]
 exact h.ls.keep λg K _=>k g oM
def Vj{C0:Option Es}{q r:Nat}(U:At ((34,(.slice C0 q r))::fM E n i cap A u4 S Tb u8) Ds a)(u:M22 E A ss tds f u4 Ds s S Tb B₀ (.slice none 0 0) u8 A' cap' w)(hb:s.batch)(hl:(s.ls:Nat)<=1048576)(I:∀rs,rs∈s.ls->(rs:Nat)<=1048576){x:List (List (Nat×Nat×Bool))}(V:cY w (E+1) (.slice C0 q r) x)(J:(tds:Nat)<=1048576)
 (b:K0)(k:List Item)(cs:List K0):∃m,Steps prog (lone (b.at a (.inRegion dW [2,3]::.code gn::k)) cs w) m/\∃a' w',m=lone (b.at a' k) cs w'/\
  ∃l,At (bI E n i cap A l) Ds a'/\L22 E A ss (tds++[⟨x,f⟩]) f l Ds w'/\∀b,b<E->w'.heap[b]?=w.heap[b]?:=by
 have y:wpOps prog dW (λe G H=>e=.normal/\At (fM E n i cap A u4 S Tb u8) Ds G/\H=w.setCell (aD Tb 0) (.slice C0 q r)) [2,3] a w:=by
  have e:=wpOps_eq_wpList (P:=prog) (ops:=dW) (Q:=λe G H=>e=.normal/\At (fM E n i cap A u4 S Tb u8) Ds G/\H=w.setCell (aD Tb 0) (.slice C0 q r)) (dW.toList.drop 2) 2 (λj=>by rw[acC,aar]);rw[List.length_drop,vS]at e;rw[show[2,3]=List.range' 2 (4-2)from rfl,e,Ge];obtain⟨d,rfl,Y⟩:=U.lit;unfold rE;simp only[fM,aaj,ZG,aaS,aa3,and_true]at Y;obtain⟨K,L,h4,h6,h7,h8,M,N,O⟩:=Y;rw[L,h4,h6,h7,h8,M,N,O,K];have hT0:=u.T0;have hTz:=u.Tz 0;clear u V U;have o:∀C:Aq,At (fM E n i cap A u4 S Tb u8) Ds ⟨(d 0::d 1::d 2::pT E 0::u4::d 5::pT S 0::pT Tb 0::u8::d 9::d 10::d 11::d 12::d 13::d 14::d 15::d 16::d 17::d 18::d 19::d 20::.slice A n cap::iI n::iI i::d 24::d 25::d 26::d 27::d 28::d 29::d 30::d 31::d 32::d 33::(.slice C0 q r)::C::d 36::d 37::d 38::d 39::d 40::d 41::d 42::d 43::d 44::d 45::d 46::d 47::d 48::d 49::d 50::d 51::d 52::d 53::d 54::d 55::d 56::d 57::d 58::d 59::d 60::d 61::d 62::d 63::d 64::d 65::d 66::d 67::d 68::d 69::d 70::d 71::d 72::d 73::d 74::d 75::d 76::d 77::d 78::d 79::d 80::d 81::d 82::d 83::d 84::d 85::d 86::d 87::d 88::d 89::d 90::d 91::d 92::d 93::d 94::d 95::d 96::d 97::d 98::d 99::d 100::d 101::d 102::d 103::d 104::d 105::d 106::d 107::d 108::d 109::d 110::d 111::d 112::d 113::d 114::d 115::d 116::d 117::d 118::d 119::d 120::d 121::d 122::d 123::d 124::d 125::d 126::d 127::d 128::d 129::d 130::d 131::d 132::d 133::d 134::d 135::d 136::d 137::d 138::d 139::d 140::d 141::d 142::d 143::d 144::d 145::d 146::d 147::d 148::d 149::d 150::d 151::d 152::d 153::[]).toArray,Ds.map mark⟩:=λC=>⟨rfl,rfl,λp Z=>by
   simp only[fM,ZM,ZG,aaV]at Z;rcases Z with rfl|rfl|rfl|rfl|rfl|rfl|rfl|rfl<;>rfl⟩
  generalize At (fM E n i cap A u4 S Tb u8) Ds=X at o⊢;replace o:=Zp o
  go_wp2
  exact o.out _
 obtain⟨e,G,H,⟨rfl,R,rfl⟩,D⟩:=wp_ops [2,3] a w y b (.code gn::k) cs;have hz:((w.setCell (aD Tb 0) (.slice C0 q r)):Nat)=w:=by simp[World.setCell]
 have g1:=u.ES;have g2:=u.ST;obtain⟨e,a2,w2,⟨rfl,l,h1,h2,L⟩,v⟩:=uO R (u.told (.slice C0 q r)) hb hl I (V.keepC λg c t z _ F hc=>fL (by
  rintro rfl;have h:=u.Tt;unfold World.shape? at h;rw[hc]at h;simp only[Zt,abF]at h;rcases F with F|F
  .exact absurd (F.symm.trans h.1) dC
  exact absurd (F.symm.trans h.1) dC)) J b k cs
 exact⟨_,Steps.trans D v,a2,w2,rfl,l,h1,h2,λb T=>(L b T).trans (fL oM)⟩
def jr.keep'{c:AK}{Ds:List Nat}(h:jr B W Ds)(d:∀D,D∈Ds->W.heap[D]?=some (.deferred (some []))->c.heap[D]?=some (.deferred (some []))):jr B c Ds:=⟨h.1,λD b=>⟨(h.2 D b).1,d D b (h.2 D b).2⟩⟩
def kq.keepN{w v:AK}{u:Aq}{tds:List TD}(h:kq w B u tds)(d:(w:Nat)<=v)(m:tds=[]->u=.slice none 0 0)(j:∀(g:Nat)(c:Array Aq)(t:E1),B<=g->w.heap[g]?=some (.cells c t (0,0))->0<c.size->v.heap[g]?=w.heap[g]?):kq v B u tds:=by
 obtain⟨ps,k,l,o⟩:=h;refine⟨ps,k,?_,λp q=>(o p q).keepN d λg c t b _ r d=>j g c t b r d⟩;cases ps with
 |nil=>
  rw[m (by rw[<-k];rfl)];exact⟨rfl,.inl ⟨rfl,rfl⟩⟩
 |cons p ps=>
  refine bn l λg b=>?_;rcases l.2 with⟨rfl,x⟩|⟨g',cap,e,rfl,y,z,C,F,D,G⟩
  .simp at x
  simp only[Value.ownBlock,Zt]at b;subst b;refine j g' e _ y z ?_;rw[D];simp only[Z6]at C;omega
def M22.moved{Dd:Nat->Prop}{f':Nat}(h:M22 E A ss tds f u4 Ds s S Tb B₀ u0 u8 A' cap' w)(H:∀b,Dd b->E<b/\b<S)(u:∀b c t z,Dd b->w.heap[b]?=some (.cells c t z)->c=#[])(K:∀D,D∈Ds->¬Dd D)
 (r:∀b,b<(w:Nat)->¬Dd b->b≠E->W.heap[b]?=w.heap[b]?)(I:(w:Nat)<=W)(L:W (aD E 0)=iH f')(v:W.frozen? (aD E 0)=false)(M:f'<256):M22 E A ss tds f' u4 Ds s S Tb B₀ u0 u8 A' cap' W:=by
 have N:=h.ES;have O:=h.ST;have P:=h.TB;have Y:=h.Bw;have d:=h.l;have Q:=d.lt;have x:∀b,b<E->W.heap[b]?=w.heap[b]?:=λb R=>r b oM (λm=>by have:=H b m;omega) oM;have p:∀b,S<=b->b<(w:Nat)->W.heap[b]?=w.heap[b]?:=λb R T=>r b T (λm=>by have:=H b m;omega) oM;have j:∀o,W (aD S o)=w (aD S o):=λo=>ZW (a:=aD S o) (p S oM oM);have k:∀o,W (aD Tb o)=w (aD Tb o):=λo=>ZW (a:=aD Tb o) (p Tb oM oM);refine⟨⟨d.inp.keep x I,d.tab.low d.pos x,oM,d.pos,L,v,M,d.out.keepN I d.nil λg c t U J y=>r g (Zq.1 J).1 (λm=>?_) oM,d.nil,d.pile.keep' λD C F=>(r D (Zq.1 F).1 (K D C) ?_).trans F⟩,N,O,P,oM,(j 0).trans h.S0,(j 1).trans h.S1,(j 2).trans h.S2,(k 0).trans h.T0,(k 1).trans h.T1,(k 2).trans h.T2,λo=>(aak (a:=aD Tb o) (p Tb oM oM)).trans (h.Tz o),?_,h.ls.keep λg U G=>p g oM G,λV X Z=>h.low V (λb q=>(X b q).trans (x b q)) oM,h.u4b⟩
 .have:=u g c t _ m J;subst this;simp at y
 .rintro rfl;exact eT F d.e
 unfold World.shape?;rw[p Tb oM oM];exact h.Tt
def M22.same(h:M22 E A ss tds f u4 Ds s S Tb B₀ u0 u8 A' cap' w)(e:W.heap=w.heap):M22 E A ss tds f u4 Ds s S Tb B₀ u0 u8 A' cap' W:=
 h.moved (Dd:=λ_=>False) (λ_ h=>h.elim) (λ_ _ _ _ h=>h.elim) (λ_ _ h=>h) (λb _ _ _=>by rw[e]) (aaE (by rw[e])) ((ZW (a:=aD E 0) (by rw[e])).trans h.l.e) ((aak (a:=aD E 0) (by rw[e])).trans h.l.ez) h.l.fl
def L22.same(b:L22 E A ss tds f u4 Ds w)(e:W.heap=w.heap):L22 E A ss tds f u4 Ds W:=
 ⟨b.inp.keep (λ_ _=>by rw[e]) (aaE (by rw[e])),b.tab.low b.pos (λ_ _=>by rw[e]),by rw[e];exact b.lt,b.pos,(ZW (a:=aD E 0) (by rw[e])).trans b.e,(aak (a:=aD E 0) (by rw[e])).trans b.ez,b.fl,b.out.keep (aaE (by rw[e])) λ_ _ _ _ _ _ _=>by rw[e],b.nil,b.pile.keep λ_ _ c=>by rw[e];exact c⟩
end
end
section
open Go.Conc Go.ConcN Go.RowKit Go.Conc.Lib Go.ConcR.Gen
open Go.ConcR (KK wgBlock WgAt stA smA rd wr mk Payload DC0 ofEvent_cell)
variable{Lo k xB:Nat}{a₀:Act}{r:Rec}
def NN(T:Array Aq)(h:T.size=34):∃E F G H I J K L M N b c d e f g i j m n o p q s t u v w y z A B C D,T=#[E,F,G,H,I,J,K,L,M,N,b,c,d,e,f,g,i,j,m,n,o,p,q,s,t,u,v,w,y,z,A,B,C,D]:=by
 obtain⟨l⟩:=T;simp only[aah]at h;rcases l with _|⟨E,l⟩
 .simp at h
 rcases l with _|⟨F,l⟩
 .simp at h
 rcases l with _|⟨G,l⟩
 .simp at h
 rcases l with _|⟨H,l⟩
 .simp at h
 rcases l with _|⟨I,l⟩
 .simp at h
 rcases l with _|⟨J,l⟩
 .simp at h
 rcases l with _|⟨K,l⟩
 .simp at h
 rcases l with _|⟨L,l⟩
 .simp at h
 rcases l with _|⟨M,l⟩
 .simp at h
 rcases l with _|⟨N,l⟩
 .simp at h
 rcases l with _|⟨b,l⟩
 .simp at h
 rcases l with _|⟨c,l⟩
 .simp at h
 rcases l with _|⟨d,l⟩
 .simp at h
 rcases l with _|⟨e,l⟩
 .simp at h
 rcases l with _|⟨f,l⟩
 .simp at h
 rcases l with _|⟨g,l⟩
 .simp at h
 rcases l with _|⟨i,l⟩
 .simp at h
 rcases l with _|⟨j,l⟩
 .simp at h
 rcases l with _|⟨m,l⟩
 .simp at h
 rcases l with _|⟨n,l⟩
 .simp at h
 rcases l with _|⟨o,l⟩
 .simp at h
 rcases l with _|⟨p,l⟩
 .simp at h
 rcases l with _|⟨q,l⟩
 .simp at h
 rcases l with _|⟨s,l⟩
 .simp at h
 rcases l with _|⟨t,l⟩
 .simp at h
 rcases l with _|⟨u,l⟩
 .simp at h
 rcases l with _|⟨v,l⟩
 .simp at h
 rcases l with _|⟨w,l⟩
 .simp at h
 rcases l with _|⟨y,l⟩
 .simp at h
 rcases l with _|⟨z,l⟩
 .simp at h
 rcases l with _|⟨A,l⟩
 .simp at h
 rcases l with _|⟨B,l⟩
 .simp at h
 rcases l with _|⟨C,l⟩
 .simp at h
 rcases l with _|⟨D,l⟩
 .simp at h
 rcases l with _|⟨x,l⟩
 .exact⟨E,F,G,H,I,J,K,L,M,N,b,c,d,e,f,g,i,j,m,n,o,p,q,s,t,u,v,w,y,z,A,B,C,D,rfl⟩
 simp at h
def ny:Array Oper:=match bD with|.seq _ (.seq _ (.seq (.block _ (.seq _ (.seq _ (.seq (.region _ ops _) _)))) _))=>ops|_=>#[]
section
variable{K:bW}{y:Lay}{Fz M:Nat->Prop}{w:AK}
structure P5(K:bW)(y:Lay)(Fz:Nat->Prop)(k Lo xB:Nat)(r:Rec)(a₀:Act)(b0 b1 b2 b3 b4 b5:Bool)(a:Act)(M:Nat->Prop)(w:AK):Prop where
 h:Hd K y Fz k Lo M w
 mx:M xB
 x:w.heap[xB]?=some (.cells #[iU r.res.1,qB r.res.2.1,.bool r.res.2.2] 56 (0,0))
 size:a.tmps.size=34
 df:a.defers=a₀.defers
 old:∀t,t<16->a.tmps[t]?=a₀.tmps[t]?
 t2:a.tmps[2]?=pT y.eB 0
 t7:a.tmps[7]?=pT xB 0
 t16:b0->a.tmps[16]?=pT K.E 0
 t17:b1->a.tmps[17]?=pT K.E 0
 t18:b2->a.tmps[18]?=pT K.E 0
 t19:b3->a.tmps[19]?=pT xB 1
 t20:b4->a.tmps[20]?=qB r.res.2.1
 t21:b5->a.tmps[21]?=iH r.res.2.1
 cl1:b1->b0
 cl2:b2->b1
 cl4:b4->b3
 cl5:b5->b4
def P5.put{a:Act}{l o L p q N:Bool}{v:AK}(c:P5 K y Fz k Lo xB r a₀ l o L p q N a M w)(O:Hd K y Fz k Lo M v)
 (P:v.heap[xB]?=some (.cells #[iU r.res.1,qB r.res.2.1,.bool r.res.2.2] 56 (0,0))){t:Nat}(R:16<=t)(Q:t<34)(val:Aq)
 (s:t=16->val=pT K.E 0)(x:t=17->val=pT K.E 0)(z:t=18->val=pT K.E 0)(A:t=19->val=pT xB 1)(B:t=20->val=qB r.res.2.1)(C:t=21->val=iH r.res.2.1)(D:t=17->l)(F:t=18->o)(G:t=20->p)(H:t=21->q):
 P5 K y Fz k Lo xB r a₀ (l||t==16) (o||t==17) (L||t==18) (p||t==19) (q||t==20) (N||t==21) ⟨a.tmps.setIfInBounds t val,a.defers⟩ M v:=by
 have d:∀(n:Nat)(b:Bool)(u:Aq),n<34->(b->a.tmps[n]?=u)->(t=n->val=u)->(b||t==n)->(a.tmps.setIfInBounds t val)[n]?=u:=by
  intro n b u g I J h;by_cases e:t=n
  .subst e;rw[Z0 (by rw[c.size];exact g),J rfl]
  rw[ZF e];exact I (by simpa[e]using h)
 have i:∀{n:Nat}{b j:Bool},(b->j)->(t=n->j)->∀m,(b||t==n)->(j||t==m):=by
  intro n b j I J m h;simp only[abi,abH]at h⊢;exact .inl (h.elim I J)
 have f:∀n,n<16->(a.tmps.setIfInBounds t val)[n]?=a.tmps[n]?:=λn g=>ZF oM;exact⟨O,c.mx,P,by simp[c.size],c.df,λn g=>(f n g).trans (c.old n g),(f 2 oM).trans c.t2,(f 7 oM).trans c.t7,
  d 16 _ _ oM c.t16 s,d 17 _ _ oM c.t17 x,d 18 _ _ oM c.t18 z,d 19 _ _ oM c.t19 A,d 20 _ _ oM c.t20 B,d 21 _ _ oM c.t21 C,i c.cl1 D _,i c.cl2 F _,i c.cl4 G _,i c.cl5 H _⟩
def Xe(hK:K.Laws){B:Nat}(V:K.Fl=FlB K.E B)(J:y.Ok K Fz)(W:r.res.2.1<256)(S:r.res.2.1|||B=B){Q:Act->(Nat->Prop)->AK->Prop}
 (X:∀(a:Act)(M:Nat->Prop)(w:AK)(x:Aq),a.tmps.size=34->a.defers=a₀.defers->(∀t,t<16->a.tmps[t]?=a₀.tmps[t]?)->Hd K y Fz k Lo M w->(∃f:Nat,bG K.E w f/\(fF (y.rs.take k)|||r.res.2.1)|||f=f)->M xB->w.heap[xB]?=some (.cells #[iU r.res.1,qB r.res.2.1,.bool r.res.2.2] 56 (0,0))->Q (a.put (some 22) x) M w):
 ∀(f:Nat)(u z A C D F:Bool)(a:Act)(M:Nat->Prop)(w:AK),f=(if u then 0 else 1)+(if z then 0 else 1)+(if A then 0 else 1)+(if C then 0 else 1)+(if D then 0 else 1)+(if F then 0 else 1)+1->
  P5 K y Fz k Lo xB r a₀ u z A C D F a M w->Lp prog false (RK K y.i Fz) (DK K y.i Fz) b53.fn ny .any Q f #[u,z,A,C,D,F,false] a M w:=by
 have Y:=aeV K hK y.i Fz;have Z:∀M v,DK K y.i Fz M v v #[]:=λM v=>aeY hK v sM;have s:∃B,K.Fl=FlB K.E B:=⟨B,V⟩;have N:Db ny:=by kernel_rfl
 have T:ny.size=7:=by kernel_rfl
 intro f;induction f with
 |zero=>intro u z A C D F a M w L;omega
 |succ f O=>
  intro u z A C D F a M w L b;refine⟨λhr=>absurd hr (te N (by rw[T];rfl) (i:=6) rfl),λi hi=>?_⟩;obtain⟨n,o,c,p⟩:=mem_ready.1 hi
  match i,n,c,p with
  |0,n,c,p=>
   (have H:u=false:=by simpa using n);have d:=c;simp only[ny,bD,bK,f53,ZR,ZT,ZE,ZI,Zt]at c;subst c;refine ee d rfl λv m P j=>?_;have q:=b.h.rely hK s J m;have G:=(m.mine _ b.mx).trans b.x;have I:=b.t2;have hc:=q.kn.he;go_simp;refine j _ _ ⟨aeY hK v λe U=>(by have R:=abf U;simp[go_sem, *]at R;subst R;exact l7 _ J.eB (q.gk.fz _ J.eB).2 _),?_⟩;rw[al rfl];exact O true z A C D F _ _ _ (by simp[H]at L⊢;omega) (by simpa using b.put q G (t:=16) oM oM _ (λe=>eCr) (λe=>eCr) (λe=>eCr) (λe=>eCr) (λe=>eCr) (λe=>eCr) (λe=>eCr) (λe=>eCr) (λe=>eCr) (λe=>eCr))
  |1,n,c,p=>
   (have H:z=false:=by simpa using n);(have d0:u:=by simpa using p ⟨0,.data⟩ (by have l:=c;simp only[ny,bD,bK,f53,ZR,ZT,ZE,ZI,Zt]at l;rw[<-l];simp) rfl);have d:=c;simp only[ny,bD,bK,f53,ZR,ZT,ZE,ZI,Zt]at c;subst c;refine ee d rfl λv m P j=>?_;have q:=b.h.rely hK s J m;have G:=(m.mine _ b.mx).trans b.x;have I:=b.t16 d0;go_simp;refine j _ _ ⟨by rw[aaw (by simp[go_sem, *])];exact aeY hK v sM,?_⟩;rw[al rfl];exact O u true A C D F _ _ _ (by simp[H]at L⊢;omega) (by simpa using b.put q G (t:=17) oM oM _ (λe=>eCr) (λe=>eCr) (λe=>eCr) (λe=>eCr) (λe=>eCr) (λe=>eCr) (λe=>eCr) (λe=>eCr) (λe=>eCr) (λe=>eCr))
  |2,n,c,p=>
   (have H:A=false:=by simpa using n);(have d0:z:=by simpa using p ⟨1,.data⟩ (by have l:=c;simp only[ny,bD,bK,f53,ZR,ZT,ZE,ZI,Zt]at l;rw[<-l];simp) rfl);have d:=c;simp only[ny,bD,bK,f53,ZR,ZT,ZE,ZI,Zt]at c;subst c;refine ee d rfl λv m P j=>?_;have q:=b.h.rely hK s J m;have G:=(m.mine _ b.mx).trans b.x;have I:=b.t17 d0;go_simp;refine j _ _ ⟨by rw[aaw (by simp[go_sem, *])];exact aeY hK v sM,?_⟩;rw[al rfl];exact O u z true C D F _ _ _ (by simp[H]at L⊢;omega) (by simpa using b.put q G (t:=18) oM oM _ (λe=>eCr) (λe=>eCr) (λe=>eCr) (λe=>eCr) (λe=>eCr) (λe=>eCr) (λe=>eCr) (λe=>eCr) (λe=>eCr) (λe=>eCr))
  |3,n,c,p=>
   (have H:C=false:=by simpa using n);have d:=c;simp only[ny,bD,bK,f53,ZR,ZT,ZE,ZI,Zt]at c;subst c;refine ee d rfl λv m P j=>?_;have q:=b.h.rely hK s J m;have G:=(m.mine _ b.mx).trans b.x;have I:=b.t7;go_simp;refine j _ _ ⟨by rw[aaw (by simp[go_sem, *])];exact aeY hK v sM,?_⟩;rw[al rfl];exact O u z A true D F _ _ _ (by simp[H]at L⊢;omega) (by simpa using b.put q G (t:=19) oM oM _ (λe=>eCr) (λe=>eCr) (λe=>eCr) (λe=>eCr) (λe=>eCr) (λe=>eCr) (λe=>eCr) (λe=>eCr) (λe=>eCr) (λe=>eCr))
  |4,n,c,p=>
   (have H:D=false:=by simpa using n);(have d0:C:=by simpa using p ⟨3,.data⟩ (by have l:=c;simp only[ny,bD,bK,f53,ZR,ZT,ZE,ZI,Zt]at l;rw[<-l];simp) rfl);have d:=c;simp only[ny,bD,bK,f53,ZR,ZT,ZE,ZI,Zt]at c;subst c;refine ee d rfl λv m P j=>?_;have q:=b.h.rely hK s J m;have G:=(m.mine _ b.mx).trans b.x;have I:=b.t19 d0;(have hc:cF v xB 1 (qB r.res.2.1):=by simp[World.cell?,G]);go_simp;refine j _ _ ⟨aeY hK v λe U=>(by have R:=abf U;simp[go_sem, *]at R;subst R;exact jC _ b.mx (q.gk.lt _ b.mx) _ _),?_⟩;rw[al rfl];exact O u z A C true F _ _ _ (by simp[H]at L⊢;omega) (by simpa using b.put q G (t:=20) oM oM _ (λe=>eCr) (λe=>eCr) (λe=>eCr) (λe=>eCr) (λe=>eCr) (λe=>eCr) (λe=>eCr) (λe=>eCr) (λe=>eCr) (λe=>eCr))
  |5,n,c,p=>
   (have H:F=false:=by simpa using n);(have d0:D:=by simpa using p ⟨4,.data⟩ (by have l:=c;simp only[ny,bD,bK,f53,ZR,ZT,ZE,ZI,Zt]at l;rw[<-l];simp) rfl);have d:=c;simp only[ny,bD,bK,f53,ZR,ZT,ZE,ZI,Zt]at c;subst c;refine ee d rfl λv m P j=>?_;have q:=b.h.rely hK s J m;have G:=(m.mine _ b.mx).trans b.x;have I:=b.t20 d0;(have hw:IntKind.u32.wrap (r.res.2.1:Int)=r.res.2.1:=by rw[IntKind.wrap_u32];omega);go_simp;refine j _ _ ⟨by rw[aaw (by simp[go_sem, *])];exact aeY hK v sM,?_⟩;rw[al rfl];exact O u z A C D true _ _ _ (by simp[H]at L⊢;omega) (by simpa using b.put q G (t:=21) oM oM _ (λe=>eCr) (λe=>eCr) (λe=>eCr) (λe=>eCr) (λe=>eCr) (λe=>eCr) (λe=>eCr) (λe=>eCr) (λe=>eCr) (λe=>eCr))
  |6,n,c,p=>
   have d:=c;simp only[ny,bD,bK,f53,ZR,ZT,ZE,ZI,Zt]at c;subst c;(have d2:A:=by simpa using p ⟨2,.data⟩ sM rfl);(have d5:F:=by simpa using p ⟨5,.data⟩ sM rfl);have d1:=b.cl2 d2;have d0:=b.cl1 d1;have d4:=b.cl5 d5;have d3:=b.cl4 d4;subst d0 d1 d2 d3 d4 d5;(obtain rfl:f=0:=by simpa using L);refine zL Y (λv _=>Z _ v) d rfl rfl func55 (by kernel_rfl) rfl λfr cs=>?_;(have e:(#[.tmp 18,.tmp 21]:Array Operand).map a.eval=#[pT K.E 0,iH r.res.2.1]:=by simp[Act.eval,b.t18 rfl,b.t21 rfl]);rw[e];refine(Wm hK V J b.h (g:=r.res.2.1) oM S fr cs).mono (λ_ _ h=>h) (λ_ _ _ _ h=>h) ?_;rintro g' M' v⟨x,rfl,rfl,h3,h4,h5⟩;exact⟨x,rfl,by kernel_rfl,X a M' v x b.size b.df b.old h3 h4 b.mx ((h5 _ b.mx).trans b.x)⟩
  |i+7,n,c,p=>simp at n
end
end
section
open Go.Conc Go.ConcN Go.RowKit Go.Conc.Lib Go.ConcR.Gen
open Go.ConcR (KK wgBlock WgAt stA smA rd wr mk Payload DC0 ofEvent_cell)
variable{a a₀:Act}{b0 b1 b2 b3 b4 b5 b6 b7 b8:Bool}{k xB:Nat}{r:Rec}{rs:List Rec}{s:Aq}
def j0:Array Oper:=match bD with|.seq _ (.seq _ (.seq (.block _ (.seq _ (.seq _ (.seq _ (.region _ ops _))))) _))=>ops|_=>#[]
section
variable{K:bW}{y:Lay}{Fz M:Nat->Prop}{w v:AK}
structure P6(K:bW)(y:Lay)(Fz:Nat->Prop)(k xB:Nat)(r:Rec)(s:Aq)(a₀:Act)(b0 b1 b2 b3 b4 b5 b6 b7 b8:Bool)(a:Act)(M:Nat->Prop)(w:AK):Prop where
 kn:Kn K y w
 gk:Gk K Fz M w
 has:Has K.C y.i s w
 fl:∃f:Nat,bG K.E w f/\(fF (y.rs.take k)|||r.res.2.1)|||f=f
 mx:M xB
 x:w.heap[xB]?=some (.cells #[iU r.res.1,qB r.res.2.1,.bool r.res.2.2] 56 (0,0))
 own:b8=false->w.ownsRow K.C 56 3 s k (flat (y.rs.take k))/\∀g,s.ownBlock=some g->M g/\g≠xB
 size:a.tmps.size=34
 df:a.defers=a₀.defers
 old:∀t,t<16->a.tmps[t]?=a₀.tmps[t]?
 t3:a.tmps[3]?=pT y.oB 0
 t4:a.tmps[4]?=pT y.iB 0
 t7:a.tmps[7]?=pT xB 0
 t23:b0->a.tmps[23]?=qL K.C 0 K.n y.capn
 t24:b1->a.tmps[24]?=iI y.i
 t25:b2->a.tmps[25]?=qL K.C 0 K.n y.capn
 t26:b3->a.tmps[26]?=iI y.i
 t27:b4->a.tmps[27]?=pT K.C y.i
 t28:b5->a.tmps[28]?=s
 t29:b6->a.tmps[29]?=nE r.res.1 r.res.2.1 r.res.2.2
 t30:b7->b8=false->∃bB,M bB/\a.tmps[30]?=qL bB 0 1 1/\w.heap[bB]?=some (.cells #[iU r.res.1,qB r.res.2.1,.bool r.res.2.2] 56 (0,0))/\∀g,s.ownBlock=some g->g≠bB
 t31:b8->∃s',a.tmps[31]?=some s'/\w.ownsRow K.C 56 3 s' (k+1) (flat (y.rs.take (k+1)))/\∀g,s'.ownBlock=some g->M g
 cl4:b4->b2/\b3
 cl5:b5->b4
 cl7:b7->b6
 cl8:b8->b5/\b7
def P6.rely(j:∃B,K.Fl=FlB K.E B)(m:y.Ok K Fz)(b:P6 K y Fz k xB r s a₀ b0 b1 b2 b3 b4 b5 b6 b7 b8 a M w)(c:Rel (RK K y.i Fz) M w v):P6 K y Fz k xB r s a₀ b0 b1 b2 b3 b4 b5 b6 b7 b8 a M v:=by
 obtain⟨B,n⟩:=j;refine{b with kn:=b.kn.rely m c,gk:=b.gk.rely c,has:=c.more.cell.trans b.has,fl:=o9 n b.fl c,x:=(c.mine _ b.mx).trans b.x,own:=λe=>?_,t30:=λe o=>?_,t31:=λe=>?_}
 .obtain⟨d,f⟩:=b.own e;exact⟨dG d λg l=>c.mine g (f g l).1,f⟩
 .obtain⟨p,d,f,h,q⟩:=b.t30 e o;exact⟨p,d,f,(c.mine _ d).trans h,q⟩
 obtain⟨s',d,f,h⟩:=b.t31 e;exact⟨s',d,dG f λg l=>c.mine g (h g l),h⟩
def P6.put(c:P6 K y Fz k xB r s a₀ b0 b1 b2 b3 b4 b5 b6 b7 b8 a M w){t:Nat}(N:23<=t)(H:t<30)(val:Aq)
 (q:t=23->val=(qL K.C 0 K.n y.capn))(z:t=24->val=(iI y.i))(A:t=25->val=(qL K.C 0 K.n y.capn))(B:t=26->val=(iI y.i))(D:t=27->val=(pT K.C y.i))(E:t=28->val=s)(F:t=29->val=(nE r.res.1 r.res.2.1 r.res.2.2))(l2:t=27->b2)(I:t=27->b3)(J:t=28->b4):
 P6 K y Fz k xB r s a₀ (b0||t==23) (b1||t==24) (b2||t==25) (b3||t==26) (b4||t==27) (b5||t==28) (b6||t==29) b7 b8 ⟨a.tmps.setIfInBounds t val,a.defers⟩ M w:=by
 have d:∀(n:Nat)(b:Bool)(u:Aq),n<34->(b->a.tmps[n]?=u)->(t=n->val=u)->(b||t==n)->(a.tmps.setIfInBounds t val)[n]?=u:=by
  intro n b u o h j l;by_cases e:t=n
  .subst e;rw[Z0 (by rw[c.size];exact o),j rfl]
  rw[ZF e];exact h (by simpa[e]using l)
 have G:∀{n:Nat}{b p:Bool},(b->p)->(t=n->p)->∀m,(b||t==n)->(p||t==m):=by
  intro n b p h j m l;simp only[abi,abH]at l⊢;exact .inl (l.elim h j)
 have f:∀n,n<23->(a.tmps.setIfInBounds t val)[n]?=a.tmps[n]?:=λn o=>ZF oM;have g:∀n,30<=n->(a.tmps.setIfInBounds t val)[n]?=a.tmps[n]?:=λn o=>ZF oM;exact⟨c.kn,c.gk,c.has,c.fl,c.mx,c.x,c.own,by simp[c.size],c.df,λn o=>(f n oM).trans (c.old n o),(f 3 oM).trans c.t3,(f 4 oM).trans c.t4,(f 7 oM).trans c.t7,
  d 23 _ _ oM c.t23 q,d 24 _ _ oM c.t24 z,d 25 _ _ oM c.t25 A,d 26 _ _ oM c.t26 B,d 27 _ _ oM c.t27 D,d 28 _ _ oM c.t28 E,d 29 _ _ oM c.t29 F,
  λe L=>let⟨bB,h,j,l⟩:=c.t30 e L;⟨bB,h,(g 30 oM).trans j,l⟩,λe=>let⟨s',h,j⟩:=c.t31 e;⟨s',(g 31 oM).trans h,j⟩,
  λe=>⟨G (λe=>(c.cl4 e).1) l2 _ e,G (λe=>(c.cl4 e).2) I _ e⟩,λe=>G c.cl5 J _ e,λe=>by simp[c.cl7 e],λe=>⟨by simp[(c.cl8 e).1],(c.cl8 e).2⟩⟩
def Pr{o:Oper}(b:j0[8]?=o):o={dst:=some 31,op:=.call {callee:=.builtin .append,args:=#[.tmp 28,.tmp 30],argTypes:=#[53,53]},type:=53,pos:=o.pos,after:=o.after,guard:=none}:=by
 simp only[j0,bD,bK,f53,ZR,ZT,ZE,ZI,Zt]at b;subst b;rfl
def Kn.of(b:y.Ok K Fz)(h:Kn K y w)(e:∀x,Fz x->v.heap[x]?=w.heap[x]?)(f:v.heap[K.Wg]?=w.heap[K.Wg]?)(g:PayAt K.C K.n v):Kn K y v:=by
 refine⟨(ZQ (e _ b.lB) 0).trans h.hl,(ZQ (e _ b.eB) 0).trans h.he,(ZQ (e _ b.oB) 0).trans h.ho,(ZQ (e _ b.iB) 0).trans h.hi,λk x i=>?_,dj h.live f,g,?_⟩
 .obtain⟨a,d,j⟩:=h.recs k x i;exact⟨a,d,λc u l=>(ZQ (e _ (b.base a d).1) _).trans (j c u l)⟩
 obtain⟨fz,h⟩:=h.tab;exact⟨fz,(e 0 b.tab).trans h⟩
def P6.built(q:y.Ok K Fz)(b:P6 K y Fz k xB r s a₀ b0 b1 b2 b3 b4 b5 b6 b7 b8 a M v)(t:b7=false)(d6:b6):
 P6 K y Fz k xB r s a₀ b0 b1 b2 b3 b4 b5 b6 true b8 ⟨a.tmps.setIfInBounds 30 (.slice (some ⟨v,0,none⟩) 1 1),a.defers⟩ (bP M v (v.alloc (.cells #[.int .u64 r.res.1,.int .u8 r.res.2.1,.bool r.res.2.2] 56))) (v.alloc (.cells #[.int .u64 r.res.1,.int .u8 r.res.2.1,.bool r.res.2.2] 56)):=by
 have h:=b.gk;have m:b8=false:=by
  cases b8 with
  |false=>rfl
  |true=>have:=(b.cl8 rfl).2;rw[t]at this;cases this
 subst m;have old:=dm v (.cells #[.int .u64 r.res.1,.int .u8 r.res.2.1,.bool r.res.2.2] 56);have o:=acx v (.cells #[.int .u64 r.res.1,.int .u8 r.res.2.1,.bool r.res.2.2] 56);have z:((v.alloc (.cells #[.int .u64 r.res.1,.int .u8 r.res.2.1,.bool r.res.2.2] 56)):Nat)=v+1:=sM;generalize v.alloc _=v' at*;have d:∀(n:Nat)(u:Aq),n≠30->(a.tmps.setIfInBounds 30 u)[n]?=a.tmps[n]?:=λn u p=>ZF oM;obtain⟨i,l⟩:=b.own rfl;refine⟨b.kn.of q (λx A=>old x (h.fz x A).2) (old _ h.wg) (cG b.kn.pay (old _ h.c)),h.new oM,(ZQ (old _ h.c) _).trans b.has,?_,.inl b.mx,(old _ (h.lt _ b.mx)).trans b.x,λ_=>⟨dG i λg j=>old g (mK i j),λg j=>⟨.inl (l g j).1,(l g j).2⟩⟩,by simp[b.size],b.df,
  λn p=>(d n _ oM).trans (b.old n p),(d 3 _ oM).trans b.t3,(d 4 _ oM).trans b.t4,(d 7 _ oM).trans b.t7,λe=>(d 23 _ oM).trans (b.t23 e),λe=>(d 24 _ oM).trans (b.t24 e),λe=>(d 25 _ oM).trans (b.t25 e),λe=>(d 26 _ oM).trans (b.t26 e),λe=>(d 27 _ oM).trans (b.t27 e),λe=>(d 28 _ oM).trans (b.t28 e),λe=>(d 29 _ oM).trans (b.t29 e),
  λ_ _=>⟨v,.inr ⟨Zo _,oM⟩,Z0 (by rw[b.size];omega),o,(λg j e=>(by have:=mK i j;omega))⟩,(λe=>(by cases e)),b.cl4,b.cl5,λ_=>d6,(λe=>(by cases e))⟩
 obtain⟨f,⟨B,C,D⟩,E⟩:=b.fl;exact⟨f,⟨B,(old _ h.e).trans C,D⟩,E⟩
def GR(c:rs[k]?=r):flat (rs.take (k+1))=flat (rs.take k)++xz r.res:=by
 obtain⟨b,rfl⟩:=ZL.1 c;unfold flat;rw[aas b,acZ];simp
def Cl(c:rs[k]?=r):fF (rs.take (k+1))=fF (rs.take k)|||r.res.2.1:=by
 obtain⟨b,rfl⟩:=ZL.1 c;unfold fF;rw[aas b,ab3];rfl
noncomputable def tiR:TypeInfo:=(prog.info? 56).getD default
def HL:prog.info? 56=tiR:=by kernel_rfl
def yK:tiR.size=3:=by kernel_rfl
def vt:tiR.bytes=16:=by kernel_rfl
def yJ:tiR.zero=some (.agg #[iU 0,qB 0,.bool false]):=by kernel_rfl
def P6.appended(hK:K.Laws)(X:y.Ok K Fz)(hk:k<y.rs)(hr:y.rs[k]?=r)(b:P6 K y Fz k xB r s a₀ b0 b1 b2 b3 b4 b5 b6 b7 b8 a M v)(hb:b8=false)(d5:b5)(d7:b7){fn:FuncId}{o:Oper}(ho:j0[8]?=o):
 ∃s' w',(Builtin.append_ #[53,53] 53 #[a.eval (.tmp 28),a.eval (.tmp 30)]).run prog v=.ok s' w'/\DK K y.i Fz M v w' (listed prog fn a o v)/\
  P6 K y Fz k xB r s a₀ b0 b1 b2 b3 b4 b5 b6 b7 true (a.put (some 31) s') (bP M v w') w':=by
 have l:=b.gk;subst hb;obtain⟨T,U,V,h3,h4⟩:=b.t30 d7 rfl;obtain⟨L,G⟩:=b.own rfl;have e1:a.eval (.tmp 28)=s:=by simp[Act.eval,b.t28 d5]
 have e2:a.eval (.tmp 30)=qL T 0 1 1:=by simp[Act.eval,V]
 rw[e1,e2];have z:∀j u,(xz r.res)[j]?=some u->v ((aD T 0:Es).add j)=some u:=by
  intro j u W;have hlt:j<3:=(ZL.1 W).1;rcases(show j=0\/j=1\/j=2 by omega)with rfl|rfl|rfl<;>(simp[xz]at W;subst W;simp[World.cell?,Addr.add,h3])
 have B:∀u∈xz r.res,u.oneCell':=by intro u Y;simp[xz]at Y;rcases Y with rfl|rfl|rfl<;>rfl
 have Z:=X.len;have D:(k+1)*16<=140737488355328:=oM;obtain⟨s',w',N,A,q,_,t⟩:=run_append_own_at (P:=prog) v K.C 53 53 56 tiR _ 3 16 underlying53 HL yJ yK vt rfl dC s k _ L (aD T 0) 1 1 (xz r.res) rfl z B (by simp only[maxLen];omega) D (abw l.c);have O:=events_append_where (P:=prog) v K.C 53 53 56 tiR _ 3 16 underlying53 HL yJ yK vt s k _ L (aD T 0) 1 1 (xz r.res) rfl z B (by simp only[maxLen];omega) D;rw[<-GR hr]at A;have d:∀x,x<(v:Nat)->¬M x->w'.heap[x]?=v.heap[x]?:=λx E F=>q.block x E λe=>F (G x e.symm).1;have H:∀x,x<(v:Nat)->s.ownBlock≠some x->w'.heap[x]?=v.heap[x]?:=λx E F=>q.block x E λe=>F e.symm;have I:=l.new q.size;have J:∀g,s.ownBlock=some g->bP M v w' g:=λg Q=>.inl (G g Q).1;refine⟨s',w',N,⟨q.tape,q.os,q.output,q.size,λx E F _ _=>d x E F,λhp=>cG hp (d _ l.c l.mC),λi' _=>ZQ (d _ l.c l.mC) i',hK.flE _ _ (d _ l.e l.mE),λe he=>?_⟩,?_⟩
 .have F:=abf he;rw[Pr ho,events_append_op (.tmp 28) (.tmp 30) 53 rfl e1 e2]at F;rcases O e F with⟨ad,R,p⟩|⟨m,rfl,S⟩
  .obtain⟨loc,wr,sy⟩:=e;simp only at R p;subst R;rcases p with⟨_,p⟩|p
   .exact jC ad (.inl (p▸U)) (I.lt _ (.inl (p▸U))) _ _
   exact jC ad (J _ p.symm) (I.lt _ (J _ p.symm)) _ _
  unfold Neutral at S;subst S;exact Kh _ rfl rfl sM sM sM trivial
 have h:∀(n:Nat),n≠31->(a.put (some 31) s').tmps[n]?=a.tmps[n]?:=λn hn=>by simp only[Act.put];exact ZF oM
 have eC:=d _ l.c l.mC;refine⟨b.kn.of X (λx E=>d x (l.fz x E).2 (l.fz x E).1) (d _ l.wg l.mW) (cG b.kn.pay eC),I,(ZQ eC _).trans b.has,?_,.inl b.mx,(H _ (l.lt _ b.mx) λe=>(G _ e).2 rfl).trans b.x,(λe=>(by cases e)),by simp[Act.put,b.size],b.df,
  λn hn=>(h n oM).trans (b.old n hn),(h 3 oM).trans b.t3,(h 4 oM).trans b.t4,(h 7 oM).trans b.t7,λe=>(h 23 oM).trans (b.t23 e),λe=>(h 24 oM).trans (b.t24 e),λe=>(h 25 oM).trans (b.t25 e),λe=>(h 26 oM).trans (b.t26 e),λe=>(h 27 oM).trans (b.t27 e),λe=>(h 28 oM).trans (b.t28 e),λe=>(h 29 oM).trans (b.t29 e),
  (λ_ e=>(by cases e)),λ_=>⟨s',(by simp only[Act.put];exact Z0 (by rw[b.size];omega)),A,λg Q=>?_⟩,b.cl4,b.cl5,b.cl7,λ_=>⟨d5,d7⟩⟩
 .obtain⟨f,⟨e',U,hl⟩,V⟩:=b.fl;exact⟨f,⟨e',(d _ l.e l.mE).trans U,hl⟩,V⟩
 rcases t with t|t
 .exact J g (t.symm.trans Q)
 rw[t]at Q;cases Q;exact .inr ⟨Zo _,mK A t⟩
def P6.stored(hK:K.Laws)(F:y.Ok K Fz)(I:y.rs[k]?=r){s':Aq}(u:P6 K y Fz k xB r s a₀ b0 b1 b2 b3 b4 b5 b6 b7 b8 a M v)(h:v.ownsRow K.C 56 3 s' (k+1) (flat (y.rs.take (k+1))))(G:∀g,s'.ownBlock=some g->M g){es:Array Nc}(B:∀e∈es,EvK K y.i Fz M v e):
 DK K y.i Fz M v (v.setCell (aD K.C y.i) s') es/\Hd K y Fz (k+1) v M (v.setCell (aD K.C y.i) s'):=by
 have D:=u.gk;have j:=asd (v:=v) (b:=K.C) y.i s';obtain⟨cs,o,p⟩:=u.kn.pay;have d:=gh o y.i s';have c:∀x,x≠K.C->(v.setCell (aD K.C y.i) s').heap[x]?=v.heap[x]?:=λx q=>j.block x q;have l:PayAt K.C K.n (v.setCell (aD K.C y.i) s'):=⟨_,d,by simpa using p⟩;have H:=c _ hK.ec;have m:∀z,z≠y.i->(v.setCell (aD K.C y.i) s') (aD K.C z)=v (aD K.C z):=by
  intro z E;simp only[World.cell?,d,o];simp[ZF (abj E)]
 have t:Has K.C y.i s' (v.setCell (aD K.C y.i) s'):=by
  unfold Has;simp only[World.cell?,d];simp[p,F.i]
 refine⟨⟨j.tape,j.os,j.output,aaE j.size.symm,λx _ _ q _=>c x q,λ_=>l,m,hK.flE _ _ H,by rw[al j.size,j.size];exact B⟩,?_⟩;refine⟨u.kn.of F (λx q=>c x (D.fc x q).1) (c _ (abj hK.cw)) l,D.grow (aaE j.size.symm),⟨s',t,dG h λg A=>c g λe=>D.mC (e▸G g A),λg A=>⟨G g A,mK h A⟩⟩,?_⟩;obtain⟨f,⟨J,L,N⟩,O⟩:=u.fl;exact⟨f,⟨J,H.trans L,N⟩,by rw[Cl I];exact O⟩
def Xd(hK:K.Laws){B:Nat}(hB:K.Fl=FlB K.E B)(A:y.Ok K Fz)(hk:k<y.rs)(V:y.rs[k]?=r){Q:Act->(Nat->Prop)->AK->Prop}
 (hQ:∀(a:Act)(M:Nat->Prop)(w:AK),a.tmps.size=34->a.defers=a₀.defers->(∀t,t<16->a.tmps[t]?=a₀.tmps[t]?)->Hd K y Fz (k+1) w M w->Q a M w):
 ∀(f:Nat)(b0 b1 b2 b3 b4 b5 b6 b7 b8:Bool)(a:Act)(M:Nat->Prop)(w:AK),f=(if b0 then 0 else 1)+(if b1 then 0 else 1)+(if b2 then 0 else 1)+(if b3 then 0 else 1)+(if b4 then 0 else 1)+(if b5 then 0 else 1)+(if b6 then 0 else 1)+(if b7 then 0 else 1)+(if b8 then 0 else 1)+2->
  P6 K y Fz k xB r s a₀ b0 b1 b2 b3 b4 b5 b6 b7 b8 a M w->Lp prog false (RK K y.i Fz) (DK K y.i Fz) b53.fn j0 .any Q f #[b0,b1,b2,b3,b4,b5,b6,b7,b8,false,false] a M w:=by
 have hT:=aeV K hK y.i Fz;have hD:∀M v,DK K y.i Fz M v v #[]:=λM v=>aeY hK v sM;have D:∃B,K.Fl=FlB K.E B:=⟨B,hB⟩;have N:Db j0:=by kernel_rfl
 have W:j0.size=11:=by kernel_rfl
 intro f;induction f with
 |zero=>intro b0 b1 b2 b3 b4 b5 b6 b7 b8 a M w O;omega
 |succ f S=>
  intro b0 b1 b2 b3 b4 b5 b6 b7 b8 a M w O P;refine⟨λV=>absurd V (te N (by rw[W];rfl) (i:=10) rfl),λi hi=>?_⟩;obtain⟨u,o,m,z⟩:=mem_ready.1 hi
  match i,u,m,z with
  |0,u,m,z=>
   (have H:b0=false:=by simpa using u);have p:=m;simp only[j0,bD,bK,f53,ZR,ZT,ZE,ZI,Zt]at m;subst m;refine ee p rfl λv F R q=>?_;have d:=P.rely D A F;have I:=d.t3;have X:=d.kn.ho;go_simp;refine q _ _ ⟨aeY hK v λe J=>(by have G:=abf J;simp[go_sem, *]at G;subst G;exact l7 _ A.oB (d.gk.fz _ A.oB).2 _),?_⟩;rw[al rfl];exact S true b1 b2 b3 b4 b5 b6 b7 b8 _ _ _ (by simp[H]at O⊢;omega) (by simpa using d.put (t:=23) oM oM _ (λe=>eCr) (λe=>eCr) (λe=>eCr) (λe=>eCr) (λe=>eCr) (λe=>eCr) (λe=>eCr) (λe=>eCr) (λe=>eCr) (λe=>eCr))
  |1,u,m,z=>
   (have H:b1=false:=by simpa using u);have p:=m;simp only[j0,bD,bK,f53,ZR,ZT,ZE,ZI,Zt]at m;subst m;refine ee p rfl λv F R q=>?_;have d:=P.rely D A F;have I:=d.t4;have X:=d.kn.hi;go_simp;refine q _ _ ⟨aeY hK v λe J=>(by have G:=abf J;simp[go_sem, *]at G;subst G;exact l7 _ A.iB (d.gk.fz _ A.iB).2 _),?_⟩;rw[al rfl];exact S b0 true b2 b3 b4 b5 b6 b7 b8 _ _ _ (by simp[H]at O⊢;omega) (by simpa using d.put (t:=24) oM oM _ (λe=>eCr) (λe=>eCr) (λe=>eCr) (λe=>eCr) (λe=>eCr) (λe=>eCr) (λe=>eCr) (λe=>eCr) (λe=>eCr) (λe=>eCr))
  |2,u,m,z=>
   (have H:b2=false:=by simpa using u);have p:=m;simp only[j0,bD,bK,f53,ZR,ZT,ZE,ZI,Zt]at m;subst m;refine ee p rfl λv F R q=>?_;have d:=P.rely D A F;have I:=d.t3;have X:=d.kn.ho;go_simp;refine q _ _ ⟨aeY hK v λe J=>(by have G:=abf J;simp[go_sem, *]at G;subst G;exact l7 _ A.oB (d.gk.fz _ A.oB).2 _),?_⟩;rw[al rfl];exact S b0 b1 true b3 b4 b5 b6 b7 b8 _ _ _ (by simp[H]at O⊢;omega) (by simpa using d.put (t:=25) oM oM _ (λe=>eCr) (λe=>eCr) (λe=>eCr) (λe=>eCr) (λe=>eCr) (λe=>eCr) (λe=>eCr) (λe=>eCr) (λe=>eCr) (λe=>eCr))
  |3,u,m,z=>
   (have H:b3=false:=by simpa using u);have p:=m;simp only[j0,bD,bK,f53,ZR,ZT,ZE,ZI,Zt]at m;subst m;refine ee p rfl λv F R q=>?_;have d:=P.rely D A F;have I:=d.t4;have X:=d.kn.hi;go_simp;refine q _ _ ⟨aeY hK v λe J=>(by have G:=abf J;simp[go_sem, *]at G;subst G;exact l7 _ A.iB (d.gk.fz _ A.iB).2 _),?_⟩;rw[al rfl];exact S b0 b1 b2 true b4 b5 b6 b7 b8 _ _ _ (by simp[H]at O⊢;omega) (by simpa using d.put (t:=26) oM oM _ (λe=>eCr) (λe=>eCr) (λe=>eCr) (λe=>eCr) (λe=>eCr) (λe=>eCr) (λe=>eCr) (λe=>eCr) (λe=>eCr) (λe=>eCr))
  |4,u,m,z=>
   (have H:b4=false:=by simpa using u);have p:=m;simp only[j0,bD,bK,f53,ZR,ZT,ZE,ZI,Zt]at m;subst m;(have d2:b2:=by simpa using z ⟨2,.data⟩ sM rfl);(have d3:b3:=by simpa using z ⟨3,.data⟩ sM rfl);refine ee p rfl λv F R q=>?_;have d:=P.rely D A F;have I:=d.t25 d2;have Y:=d.t26 d3;have hi:=A.i;have hi0:(0:Int)<=(y.i:Int):=oM;have hi1:(y.i:Int)<(K.n:Int):=oM;(have ead:(aD K.C 0:Es).add y.i=aD K.C y.i:=by simp[Addr.add];intro h;exact h.symm);go_simp;refine q _ _ ⟨by rw[aaw (by simp[go_sem, *])];exact aeY hK v sM,?_⟩;rw[al rfl];exact S b0 b1 b2 b3 true b5 b6 b7 b8 _ _ _ (by simp[H]at O⊢;omega) (by simpa using d.put (t:=27) oM oM _ (λe=>eCr) (λe=>eCr) (λe=>eCr) (λe=>eCr) (λe=>eCr) (λe=>eCr) (λe=>eCr) (λe=>eCr) (λe=>eCr) (λe=>eCr))
  |5,u,m,z=>
   (have H:b5=false:=by simpa using u);have p:=m;simp only[j0,bD,bK,f53,ZR,ZT,ZE,ZI,Zt]at m;subst m;(have d4:b4:=by simpa using z ⟨4,.data⟩ sM rfl);refine ee p rfl λv F R q=>?_;have d:=P.rely D A F;have I:=d.t27 d4;have X:cF v K.C y.i s:=d.has;go_simp;refine q _ _ ⟨aeY hK v λe J=>(by have G:=abf J;simp[go_sem, *]at G;subst G;exact Ev d.gk.c _ _),?_⟩;rw[al rfl];exact S b0 b1 b2 b3 b4 true b6 b7 b8 _ _ _ (by simp[H]at O⊢;omega) (by simpa using d.put (t:=28) oM oM _ (λe=>eCr) (λe=>eCr) (λe=>eCr) (λe=>eCr) (λe=>eCr) (λe=>eCr) (λe=>eCr) (λe=>eCr) (λe=>eCr) (λe=>eCr))
  |6,u,m,z=>
   (have H:b6=false:=by simpa using u);have p:=m;simp only[j0,bD,bK,f53,ZR,ZT,ZE,ZI,Zt]at m;subst m;refine ee p rfl λv F R q=>?_;have d:=P.rely D A F;have I:=d.t7;have hx:=d.x;(have c0:cF v xB 0 (iU r.res.1):=by simp[World.cell?,hx]);(have c1:cF v xB 1 (qB r.res.2.1):=by simp[World.cell?,hx]);(have c2:cF v xB 2 (.bool r.res.2.2):=by simp[World.cell?,hx]);go_simp;refine q _ _ ⟨aeY hK v λe J=>(by have G:=abf J;simp[go_sem, *]at G;rcases G with rfl|rfl|rfl<;>exact jC _ d.mx (d.gk.lt _ d.mx) _ _),?_⟩;rw[al rfl];exact S b0 b1 b2 b3 b4 b5 true b7 b8 _ _ _ (by simp[H]at O⊢;omega) (by simpa using d.put (t:=29) oM oM _ (λe=>eCr) (λe=>eCr) (λe=>eCr) (λe=>eCr) (λe=>eCr) (λe=>eCr) (λe=>eCr) (λe=>eCr) (λe=>eCr) (λe=>eCr))
  |7,u,m,z=>
   (have H:b7=false:=by simpa using u);have p:=m;simp only[j0,bD,bK,f53,ZR,ZT,ZE,ZI,Zt]at m;subst m;(have d6:b6:=by simpa using z ⟨6,.data⟩ sM rfl);refine ee p rfl λv F R q=>?_;have d:=P.rely D A F;have I:=d.t29 d6;go_simp;refine q _ _ ⟨by rw[aaw (by simp[go_sem, *])];exact DK.grown hK d.gk rfl rfl rfl sM (dm v _) sM,?_⟩;exact S b0 b1 b2 b3 b4 b5 b6 true b8 _ _ _ (by simp[H]at O⊢;omega) (d.built A H d6)
  |8,u,m,z=>
   (have H:b8=false:=by simpa using u);have p:=m;simp only[j0,bD,bK,f53,ZR,ZT,ZE,ZI,Zt]at m;subst m;(have d5:b5:=by simpa using z ⟨5,.data⟩ sM rfl);(have d7:b7:=by simpa using z ⟨7,.data⟩ sM rfl);refine ee p rfl λv F R q=>?_;have d:=P.rely D A F;obtain⟨s',w',Z,T,hP'⟩:=d.appended hK A hk V H d5 d7 (fn:=b53.fn) p;exact uponK_append (.tmp 28) (.tmp 30) 53 rfl rfl rfl Z (q _ _ ⟨T,S b0 b1 b2 b3 b4 b5 b6 b7 true _ _ _ (by simp[H]at O⊢;omega) hP'⟩)
  |9,u,m,z=>
   have p:=m;simp only[j0,bD,bK,f53,ZR,ZT,ZE,ZI,Zt]at m;subst m;(have d0:b0:=by simpa using z ⟨0,.data⟩ sM rfl);(have d1:b1:=by simpa using z ⟨1,.data⟩ sM rfl);(have d2:b2:=by simpa using z ⟨2,.phase⟩ sM rfl);(have d3:b3:=by simpa using z ⟨3,.phase⟩ sM rfl);(have d4:b4:=by simpa using z ⟨4,.phase⟩ sM rfl);(have d5:b5:=by simpa using z ⟨5,.phase⟩ sM rfl);(have d6:b6:=by simpa using z ⟨6,.phase⟩ sM rfl);(have d7:b7:=by simpa using z ⟨7,.phase⟩ sM rfl);(have d8:b8:=by simpa using z ⟨8,.phase⟩ sM rfl);subst d0 d1 d2 d3 d4 d5 d6 d7 d8;(obtain rfl:f=1:=by simpa using O);refine ee p rfl λv F R q=>?_;have d:=P.rely D A F;have I:=d.t23 rfl;have Y:=d.t24 rfl;have hi:=A.i;have hi0:(0:Int)<=(y.i:Int):=oM;have hi1:(y.i:Int)<(K.n:Int):=oM;(have ead:(aD K.C 0:Es).add y.i=aD K.C y.i:=by simp[Addr.add];intro h;exact h.symm);go_simp;refine q _ _ ⟨by rw[aaw (by simp[go_sem, *])];exact aeY hK v sM,?_⟩;rw[al rfl];clear q R P hi;refine⟨λV=>absurd V (te N (by rw[W];rfl) (i:=10) rfl),λj hj=>?_⟩;obtain⟨u,o,m,_⟩:=mem_ready.1 hj;have aa:j=10:=by
    match j,u with
    |0,u|1,u|2,u|3,u|4,u|5,u|6,u|7,u|8,u|9,u=>simp at u
    |10,_=>rfl
    |j+11,u=>simp at u
   subst aa;have p:=m;simp only[j0,bD,bK,f53,ZR,ZT,ZE,ZI,Zt]at m;subst m;refine ee p rfl λv' F R q=>?_;obtain⟨s',U,L,hM⟩:=d.t31 rfl;have I:(a.tmps.setIfInBounds 32 (pT K.C y.i))[32]?=pT K.C y.i:=Z0 (by rw[d.size];omega);(have Y:(a.tmps.setIfInBounds 32 (pT K.C y.i))[31]?=s':=by rw[ZF oM];exact U);replace L:=dG L λg hg=>F.mine g (hM g hg);replace d:=d.rely D A F;clear F U;have X:cF v' K.C y.i s:=d.has;(have hz:fZ v' K.C y.i:=by obtain⟨cs,u,_⟩:=d.kn.pay;simp[World.frozen?,u]);have hs':∃b l c,s'=.slice b l c:=by
    rcases L.2 with⟨rfl,_⟩|⟨g,cap,cur,rfl,_⟩<;>exact⟨_,_,_,rfl⟩
   obtain⟨sb,sl,sc,rfl⟩:=hs';go_simp;obtain⟨T,hH⟩:=d.stored (M:=M) hK A V L hM (es:=#[⟨.cell (aD K.C y.i),true,false⟩]) (by intro e J;simp at J;subst J;exact Ev d.gk.c _ _);refine q _ _ ⟨?_,by kernel_rfl,?_⟩
   .refine{T with ev:=λe J=>T.ev e ?_};have G:=abf J;simp[go_sem,storedEv, *]at G;subst G;simp
   have hA:=asd (v:=v') (b:=K.C) y.i (.slice sb sl sc);rw[al hA.size];refine hQ _ M _ (by simp[d.size,Act.put]) d.df (λt ht=>?_) (by rw[hA.size];exact hH);simp only[Act.put];rw[ZF oM];exact d.old t ht
  |10,u,m,z=>
   have p:=m;simp only[j0,bD,bK,f53,ZR,ZT,ZE,ZI,Zt]at m;subst m;have:=z ⟨9,.data⟩ sM rfl;simp at this
  |i+11,u,m,z=>simp at u
end
end
section
open Go.Conc Go.ConcN Go.RowKit Go.Conc.Lib Go.ConcR.Gen
open Go.ConcR (KK wgBlock WgAt stA smA rd wr mk Payload DC0 ofEvent_cell)
variable{Lo k:Nat}{v:AK}
section
variable{K:bW}{y:Lay}{Fz M:Nat->Prop}{w:AK}
def tm(B:Nat)(y:Lay)(k:Nat)(C D a b c d e f g h i j l m n o p q r s t u x z A:Aq):Array Aq:=
 #[pT B 0,pT y.lB 0,pT y.eB 0,pT y.oB 0,pT y.iB 0,C0,C,D,.slice y.base y.rs y.cap,iI y.rs,iI k,a,b,c,d,e,f,g,h,i,j,l,m,n,o,p,q,r,s,t,u,x,z,A]
def JJ(hK:K.Laws)(M:Nat->Prop)(v:AK):DK K y.i Fz M v v #[]:=aeY hK v sM
def Hd.same(c:y.Ok K Fz)(h:Hd K y Fz k Lo M w)(e:v.heap=w.heap):Hd K y Fz k Lo M v:=by
 refine⟨h.kn.of c (λx _=>by rw[e]) (by rw[e]) (cG h.kn.pay (by rw[e])),h.gk.grow (by rw[e];exact Zo _),?_,?_⟩
 .obtain⟨s,a,b,d⟩:=h.s;exact⟨s,(ZQ (by rw[e]) y.i).trans a,dG b λg _=>(by rw[e]),d⟩
 obtain⟨f,⟨j,a,l⟩,b⟩:=h.f;exact⟨f,⟨j,by rw[e];exact a,l⟩,b⟩
def Hd.lo{a:Nat}(h:Hd K y Fz k Lo M w)(e:Lo<=a):Hd K y Fz k a M w:=by
 obtain⟨s,d,i,b⟩:=h.s;exact⟨h.kn,h.gk,⟨s,d,i,λg c=>⟨(b g c).1,by have:=(b g c).2;omega⟩⟩,h.f⟩
def DK.drew(hK:K.Laws)(a:Gk K Fz M v):DK K y.i Fz M v {v with drawn:=v.drawn+1} #[]:=
 DK.grown hK a rfl rfl rfl (Zo _) (λ_ _=>rfl) sM
def vi(h:k<1048576):IntKind.i64.wrap ((k:Int)+1)=((k+1:Nat):Int):=by
 rw[ZZ];omega
def LP(hK:K.Laws){B:Nat}(hB:K.Fl=FlB K.E B)(C:y.Ok K Fz)(hk:k<y.rs)(hfl:∀r,r∈y.rs->r.res.2.1<256/\r.res.2.1|||B=B){Stop:Ar->(Nat->Prop)->AK->Prop}{cs:List K0}{todo:List Item}{wg:Nat}{x6 x7 W X Y Z aa ac ag am ap ar av aw aM aR aS a1 a2 a3 a4 a6 a9 bb bg:Aq}{df:List Deferred}
(h:Hd K y Fz k Lo M w)
 (hN:∀(M':Nat->Prop)(w':AK)(x6 x7 W X Y Z aa ac ag am ap ar av aw aM aR aS a1 a2 a3 a4 a6 a9 bb bg:Aq),Hd K y Fz (k+1) w' M' w'->an prog false (RK K y.i Fz) (DK K y.i Fz) Stop (G (b53.at ⟨tm wg y (k+1) x6 x7 W X Y Z aa ac ag am ap ar av aw aM aR aS a1 a2 a3 a4 a6 a9 bb bg,df⟩ todo) cs) M' w'):
 an prog false (RK K y.i Fz) (DK K y.i Fz) Stop (G (b53.at ⟨tm wg y k x6 x7 W X Y Z aa ac ag am ap ar av aw aM aR aS a1 a2 a3 a4 a6 a9 bb bg,df⟩ (.code bD::todo)) cs) M w:=by
 have D:=aeV K hK y.i Fz;have A:∀M v,DK K y.i Fz M v v #[]:=JJ hK;have z:∃B,K.Fl=FlB K.E B:=⟨B,hB⟩;simp only[bD,bK,f53,ZR,tm];refine .ctl D rfl (λv _=>A _ v) (λv=>ZH) ?_;obtain⟨r,hr⟩:∃r,y.rs[k]?=some r:=⟨_,ZN hk⟩;obtain⟨⟨R,S,asp⟩,H,_⟩:=h.kn.recs k r hr;obtain⟨bi,U⟩:=C.base _ H;simp only at bi U;subst U;have ead:(⟨R,S,none⟩:Es).add (k*5)=⟨R,S+k*5,none⟩:=by simp[Addr.add]
 refine ck D (λv _=>A _ v) rfl fX ?_;simp only[aah,Z6,aaA,Nat.reduceAdd,Z8,List.range,List.range.loop];refine aB rfl rfl λv q F j=>?_;replace h:=h.rely hK z C q;clear q;go_simp;refine j _ _ ⟨?_,?_⟩
 .rw[aaw (by simp[go_sem, *])];exact A _ _
 clear j F;rw[al rfl];refine bL D (λv _=>A _ v) ?_;refine .ctl D rfl (λv _=>A _ v) (λv=>ZH) ?_;refine .ctl D rfl (λv _=>A _ v) (λv=>acN (t:=true) rfl) ?_;simp only[aba];refine .ctl D rfl (λv _=>A _ v) (λv=>abn) ?_;refine .ctl D rfl (λv _=>A _ v) (λv=>ZH) ?_;refine .ctl D rfl (λv _=>A _ v) (λv=>acj) ?_;refine .ctl D rfl (λv _=>A _ v) (λv=>ZH) ?_;refine ck D (λv _=>A _ v) rfl fX ?_;simp only[aah,Z6,aaA,Nat.reduceAdd,Z8,List.range,List.range.loop];refine aB rfl rfl λv q F j=>?_;replace h:=h.rely hK z C q;clear q;go_simp;refine j _ _ ⟨?_,?_⟩
 .rw[aaw (by simp[go_sem, *])];exact A _ _
 clear j F;rw[al rfl];refine aB rfl rfl λv q F j=>?_;replace h:=h.rely hK z C q;clear q;obtain⟨a',ha',hc⟩:=h.kn.recs k r hr;obtain rfl:(⟨R,S,none⟩:Es)=a':=by rw[H]at ha';exact ZO ha'
 have c0:v ⟨R,S+k*5,none⟩=some (.int .u8 r.o):=hc 0 _ rfl;have c1:v ⟨R,S+k*5+1,none⟩=some (.int .u8 r.m):=hc 1 _ rfl;have c2:v ⟨R,S+k*5+2,none⟩=some (.int .u64 r.a):=hc 2 _ rfl;have c3:v ⟨R,S+k*5+3,none⟩=some (.int .u64 r.b):=hc 3 _ rfl;have c4:v ⟨R,S+k*5+4,none⟩=some (.int .u64 r.c):=hc 4 _ rfl;go_simp;refine j _ _ ⟨aeY hK v λe he=>?_,?_⟩
 .have I:=abf he;simp[go_sem, *]at I;rcases I with rfl|rfl|rfl|rfl|rfl<;>exact l7 _ bi (h.gk.fz _ bi).2 _
 clear j F;rw[al rfl];refine aB rfl rfl λv q F j=>?_;replace h:=h.rely hK z C q;clear q;go_simp;refine j _ _ ⟨?_,?_⟩
 .rw[aaw (by simp[go_sem, *])];exact DK.grown hK h.gk rfl rfl rfl sM (dm v _) sM
 clear j F;have d:=acx v (.cells #[.int .u8 0,.int .u8 0,.int .u64 0,.int .u64 0,.int .u64 0] 59);replace h:=h.grown (v:=v.alloc (.cells #[.int .u8 0,.int .u8 0,.int .u64 0,.int .u64 0,.int .u64 0] 59)) C sM (dm v _);have l:bP M v (v.alloc (.cells #[.int .u8 0,.int .u8 0,.int .u64 0,.int .u64 0,.int .u64 0] 59)) v:=.inr ⟨Zo _,sM⟩;generalize bP M v _=M1 at h l⊢;generalize v.alloc _=w1 at h d⊢;generalize v.heap.size=J at h d l⊢;refine aB rfl rfl λv q F j=>?_;replace h:=h.rely hK z C q;replace d:=(q.mine _ l).trans d;clear q;have c0:v ⟨J,0,none⟩=some (.int .u8 0):=by simp[World.cell?,d]
 have c1:v ⟨J,1,none⟩=some (.int .u8 0):=by simp[World.cell?,d]
 have c2:v ⟨J,2,none⟩=some (.int .u64 0):=by simp[World.cell?,d]
 have c3:v ⟨J,3,none⟩=some (.int .u64 0):=by simp[World.cell?,d]
 have c4:v ⟨J,4,none⟩=some (.int .u64 0):=by simp[World.cell?,d]
 have z0:∀n,v.frozen? ⟨J,n,none⟩=false:=λn=>by simp[World.frozen?,d]
 go_simp;have N:=((((asd (v:=v) (b:=J) 0 (.int .u8 r.o)).trans (asd 1 (.int .u8 r.m))).trans (asd 2 (.int .u64 r.a))).trans (asd 3 (.int .u64 r.b))).trans (asd 4 (.int .u64 r.c));refine j _ _ ⟨DK.own hK h.gk l N λe he=>?_,?_⟩
 .have I:=abf he;simp[go_sem,storedEv, *]at I;rcases I with rfl|rfl|rfl|rfl|rfl<;>exact jC _ l (h.gk.lt _ l) _ _
 clear j F c0 c1 c2 c3 c4 z0;rw[al N.size];replace h:=h.own C l (Zo _) N;replace d:=gh (gh (gh (gh (gh d 0 (.int .u8 r.o)) 1 (.int .u8 r.m)) 2 (.int .u64 r.a)) 3 (.int .u64 r.b)) 4 (.int .u64 r.c);clear N;generalize World.setCell _ _ _=w2 at h d⊢;simp at d;refine bL D (λv _=>A _ v) ?_;refine .ctl D rfl (λv _=>A _ v) (λv=>ZH) ?_;refine ck D (λv _=>A _ v) rfl fX ?_;simp only[aah,Z6,aaA,Nat.reduceAdd,Z8,List.range,List.range.loop];refine aB rfl rfl λv q F j=>?_;replace h:=h.rely hK z C q;replace d:=(q.mine _ l).trans d;clear q;have c0:v ⟨J,0,none⟩=some (.int .u8 r.o):=by simp[World.cell?,d]
 have c1:v ⟨J,1,none⟩=some (.int .u8 r.m):=by simp[World.cell?,d]
 have c2:v ⟨J,2,none⟩=some (.int .u64 r.a):=by simp[World.cell?,d]
 have c3:v ⟨J,3,none⟩=some (.int .u64 r.b):=by simp[World.cell?,d]
 have c4:v ⟨J,4,none⟩=some (.int .u64 r.c):=by simp[World.cell?,d]
 go_simp;refine j _ _ ⟨aeY hK v λe he=>?_,?_⟩
 .have I:=abf he;simp[go_sem, *]at I;rcases I with rfl|rfl|rfl|rfl|rfl<;>exact jC _ l (h.gk.lt _ l) _ _
 clear j F c0 c1 c2 c3 c4;rw[al rfl];refine Gd (K:=λx M' v'=>x=nE r.res.1 r.res.2.1 r.res.2.2/\Hd K y Fz k J M' v'/\∀b,M1 b->M' b/\v'.heap[b]?=v.heap[b]?) D (λv _=>A _ v) rfl rfl rfl func29 (by kernel_rfl) rfl (λfr cs=>?_) ?_
 .walk_nrm
  refine(WL hK z C h (C.recs r (aae hr)) fr cs).mono (λ_ _ h=>h) (λ_ _ _ _ h=>h) ?_;rintro g M' v⟨rfl,h1,h2⟩;exact⟨_,rfl,rfl,h1,h2⟩
 clear h d l;rintro _ M2 w3⟨rfl,h,_⟩
 walk_nrm
 refine aB rfl rfl λv q F j=>?_;replace h:=h.rely hK z C q;clear q;go_simp;refine j _ _ ⟨?_,?_⟩
 .rw[aaw (by simp[go_sem, *])];exact DK.grown hK h.gk rfl rfl rfl sM (dm v _) sM
 clear j F;have d:=acx v (.cells #[.int .u64 0,.int .u8 0,.bool false] 56);replace h:=h.grown (v:=v.alloc (.cells #[.int .u64 0,.int .u8 0,.bool false] 56)) C sM (dm v _);have l:bP M2 v (v.alloc (.cells #[.int .u64 0,.int .u8 0,.bool false] 56)) v:=.inr ⟨Zo _,sM⟩;generalize bP M2 v _=M3 at h l⊢;generalize v.alloc _=w4 at h d⊢;generalize v.heap.size=xB at h d l⊢;refine aB rfl rfl λv q F j=>?_;replace h:=h.rely hK z C q;replace d:=(q.mine _ l).trans d;clear q;have c0:v ⟨xB,0,none⟩=some (.int .u64 0):=by simp[World.cell?,d]
 have c1:v ⟨xB,1,none⟩=some (.int .u8 0):=by simp[World.cell?,d]
 have c2:v ⟨xB,2,none⟩=some (.bool false):=by simp[World.cell?,d]
 have z0:∀n,v.frozen? ⟨xB,n,none⟩=false:=λn=>by simp[World.frozen?,d]
 go_simp;have N:=((asd (v:=v) (b:=xB) 0 (.int .u64 r.res.1)).trans (asd 1 (.int .u8 r.res.2.1))).trans (asd 2 (.bool r.res.2.2));refine j _ _ ⟨DK.own hK h.gk l N λe he=>?_,?_⟩
 .have I:=abf he;simp[go_sem,storedEv, *]at I;rcases I with rfl|rfl|rfl<;>exact jC _ l (h.gk.lt _ l) _ _
 clear j F c0 c1 c2 z0;rw[al N.size];replace h:=h.own C l (Zo _) N;replace d:=gh (gh (gh d 0 (.int .u64 r.res.1)) 1 (.int .u8 r.res.2.1)) 2 (.bool r.res.2.2);clear N;generalize World.setCell _ _ _=w5 at h d⊢;simp at d;refine bL D (λv _=>A _ v) ?_;refine .ctl D rfl (λv _=>A _ v) (λv=>ZH) ?_;have I:prog.follows .mixedOrders:=by kernel_rfl
 have hs5:ny.size=7:=by kernel_rfl
 have hs6:j0.size=11:=by kernel_rfl
 obtain⟨hfr1,hfr2⟩:=hfl r (aae hr);generalize O:Act.mk _ df=a0;refine tM (ops:=ny) (fn:=b53.fn) (Q:=λa' M' w'=>a'.tmps.size=34/\a'.defers=a0.defers/\(∀t,t<16->a'.tmps[t]?=a0.tmps[t]?)/\Hd K y Fz k xB M' w'/\(∃f:Nat,bG K.E w' f/\(fF (y.rs.take k)|||r.res.2.1)|||f=f)/\M' xB/\w'.heap[xB]?=some (.cells #[.int .u64 r.res.1,.int .u8 r.res.2.1,.bool r.res.2.2] 56 (0,0))) D A (λv q=>DK.drew hK (h.gk.rely q)) I rfl fX (λv q=>?_) ?_
 .rw[hs5];refine Xe hK hB C hfr1 hfr2 (a₀:=a0) (λa M w x h1 h2 h3 h4 h5 h6 h7=>⟨by simpa[Act.put]using h1,h2,λt ht=>?_,h4,h5,h6,h7⟩) 7 false false false false false false _ _ _ rfl
   ⟨(h.rely hK z C q).same C rfl,l,(q.mine _ l).trans d,by rw[<-O];rfl,rfl,λ_ _=>rfl,by rw[<-O];rfl,by rw[<-O];rfl,nofun,nofun,nofun,nofun,nofun,nofun,nofun,nofun,nofun,nofun⟩
  simp only[Act.put];rw[ZF oM];exact h3 t ht
 clear h l d;rintro a5 M5 w6⟨hsz,hdf,p,h,hfg,l,d⟩;subst O;simp only at hdf p;obtain⟨s,hs1,hs2,P⟩:=h.s;refine tM (ops:=j0) (fn:=b53.fn) (Q:=λa' M' w'=>a'.tmps.size=34/\a'.defers=a5.defers/\(∀t,t<16->a'.tmps[t]?=a5.tmps[t]?)/\Hd K y Fz (k+1) w' M' w') D A (λv q=>DK.drew hK (h.gk.rely q)) I rfl fX (λv q=>?_) ?_
 .rw[hs6];have hh:=h.rely hK z C q;have hq:P6 K y Fz k xB r s a5 false false false false false false false false false a5 M5 v:=
   ⟨hh.kn,hh.gk,q.more.cell.trans hs1,o9 hB hfg q,l,(q.mine _ l).trans d,λ_=>⟨dG hs2 λg hg=>q.mine g (P g hg).1,λg hg=>⟨(P g hg).1,(by have:=(P g hg).2;omega)⟩⟩,hsz,rfl,λ_ _=>rfl,
    (p 3 oM).trans rfl,(p 4 oM).trans rfl,(p 7 oM).trans rfl,nofun,nofun,nofun,nofun,nofun,nofun,nofun,nofun,nofun,nofun,nofun,nofun,nofun⟩
  refine Xd hK hB C hk hr (xB:=xB) (s:=s) (a₀:=a5) (λa M w h1 h2 h3 h4=>⟨h1,h2,h3,h4⟩) 11 false false false false false false false false false _ _ _ rfl ?_;exact{hq with kn:=hq.kn.of C (λ_ _=>rfl) rfl (cG hq.kn.pay rfl),gk:=hq.gk.grow (Zo _),own:=λe=>⟨dG (hq.own e).1 (λ_ _=>rfl),(hq.own e).2⟩,t31:=nofun}
 clear h l d hfg hs1 hs2 P s;rintro⟨T,d6⟩ M6 w7 ⟨V,L,u,h⟩;obtain⟨u0,u1,u2,u3,u4,u5,u6,u7,u8,u9,u10,u11,u12,u13,u14,u15,u16,u17,u18,u19,u20,u21,u22,u23,u24,u25,u26,u27,u28,u29,u30,u31,u32,u33,rfl⟩:=NN T V;have e0:=(u 0 oM).trans (p 0 oM);have e1:=(u 1 oM).trans (p 1 oM);have e2:=(u 2 oM).trans (p 2 oM);have e3:=(u 3 oM).trans (p 3 oM);have e4:=(u 4 oM).trans (p 4 oM);have e5:=(u 5 oM).trans (p 5 oM);have e8:=(u 8 oM).trans (p 8 oM);have e9:=(u 9 oM).trans (p 9 oM);have e10:=(u 10 oM).trans (p 10 oM);simp at e0 e1 e2 e3 e4 e5 e8 e9 e10;simp only at L;rw[hdf]at L;subst e0 e1 e2 e3 e4 e5 e8 e9 e10 L;clear p u hdf hsz V;refine .ctl D rfl (λv _=>A _ v) (λv=>adG) ?_;refine ck D (λv _=>A _ v) rfl fX ?_;simp only[aah,Z6,aaA,Nat.reduceAdd,Z8,List.range,List.range.loop];have hws:=vi (k:=k) (by have:=C.len;omega)
 iterate 2
  refine aB rfl rfl λv q F j=>?_;replace h:=(h.rely hK z C q);replace h:=h.lo q.size;clear q;go_simp;refine j _ _ ⟨by rw[aaw (by simp[go_sem, *])];exact A _ _,?_⟩;clear j F;rw[al rfl]
 refine bL D (λv _=>A _ v) ?_;have ek:(k:Int)+1=((k+1:Nat):Int):=oM;rw[ek,<-H];exact hN _ _ _ _ _ _ _ _ _ _ _ _ _ _ _ _ _ _ _ _ _ _ _ _ _ _ _ h
end
end
section
open Go.Conc Go.ConcN Go.RowKit Go.Conc.Lib Go.ConcR.Gen Go.ConcN.Gen
open Go.ConcR (KK wgBlock WgAt stA smA rd wr mk Payload DC0 ofEvent_cell)
variable{B:Nat}
noncomputable def bot:K0:={(default:K0)with fn:=prog.funcs.size,defers:=[],mode:=.panicking [goexitEntry]}
def call53(a:Nat)(y:Lay):Deferred:={target:=.fn (.func 53) #[pT a 0,pT y.lB 0,pT y.eB 0,pT y.oB 0,pT y.iB 0],args:=#[]}
def tm0(a:Nat)(y:Lay):Array Aq:=#[pT a 0,pT y.lB 0,pT y.eB 0,pT y.oB 0,pT y.iB 0,C0,C0,C0,C0,C0,C0,C0,C0,C0,C0,C0,C0,C0,C0,C0,C0,C0,C0,C0,C0,C0,C0,C0,C0,C0,C0,C0,C0,C0]
def Qr(a:Nat)(y:Lay)(w:AK):KC prog false (born prog (call53 a y)) w=.go (G (b53.at ⟨tm0 a y,[]⟩ [.code bK]) [bot]) w #[]:=by
 simp[born,call53,tm0,KC,unwind,callDeferred,invoke,callFunc,func53,f53,seen,GStep.after,G,Frame.enter,Frame.at,b53,baseD,bot,bK]
def Mf(T:Array Aq):QuitsD prog 2 0 (G {b53.at ⟨T,[]⟩ []with mode:=.returning} [bot]):=by
 refine QuitsD.ctl (g':=G bot []) rfl (λw=>?_) ?_
 .simp[G,KC,unwind,doReturn,results,Frame.at,b53,baseD,bot,func53,f53,seen,GStep.after,goexitEntry]
 refine QuitsD.ctl (g':={G bot []with status:=.finished}) rfl (λw=>?_) ⟨rfl,rfl⟩;simp[G,KC,unwind,bot,goexitEntry,Frame.catches];rfl
def an.of_goesM{P:E2}{main:Bool}{R:AK->AK->Prop}{D:(Nat->Prop)->AK->AK->Array Nc->Prop}{D':AK->AK->Array Nc->Prop}{c:Ar->AK->Prop}{M:Nat->Prop}(b:∀v v' es,D' v v' es->D M v v' es/\(v':Nat)=v):
 ∀{n:Nat}{g:Ar}{w:AK},Goes P main (Rel R M) D' c n g w->an P main R D (λg M' w=>M'=M/\c g w) g M w
 |0,g,w,h=>.stop λv a=>⟨rfl,h v a⟩
 |n+1,g,w,h=>by
  rcases h with h|⟨d,h⟩
  .exact .stop λv a=>⟨rfl,h v a⟩
  refine .step d (λv a=>?_) λv g' v' es a e=>?_
  .have:=h v a;revert this;cases KC P main g v<;>simp only[GStep.goes,aem];exact λx=>(b _ _ _ x.1).1
  have:=h v a;rw[e]at this;rw[al (b _ _ _ this.1).2];exact of_goesM b this.2
section
variable{K:bW}{y:Lay}{Fz M:Nat->Prop}{w:AK}
def Aa(hK:K.Laws)(X:K.Fl=FlB K.E B)(Y:y.Ok K Fz)(U:∀r,r∈y.rs->r.res.2.1<256/\r.res.2.1|||B=B){Stop:Ar->(Nat->Prop)->AK->Prop}{cs:List K0}{todo:List Item}{Z:Nat}{df:List Deferred}
 (hX:∀(M':Nat->Prop)(w':AK)(T:Array Aq),Hd K y Fz y.rs w' M' w'->an prog false (RK K y.i Fz) (DK K y.i Fz) Stop (G (b53.at ⟨T,df⟩ todo) cs) M' w'):
 ∀(m k:Nat),k+m=y.rs->∀(N:Nat)(M:Nat->Prop)(w:AK)(R S a b c d e f g j l n o p q s u x z A C D F H I:Aq),N<=w->Hd K y Fz k N M w->
  an prog false (RK K y.i Fz) (DK K y.i Fz) Stop (G (b53.at ⟨tm Z y k R S a b c d e f g j l n o p q s u x z A C D F H I,df⟩ (.code bD::.inLoop bD::.inBlock 0::todo)) cs) M w:=by
 have L:=aeV K hK y.i Fz;have J:∀M v,DK K y.i Fz M v v #[]:=JJ hK;have V:∃B,K.Fl=FlB K.E B:=⟨B,X⟩;intro m;induction m with
 |zero=>
  intro k hk N M w R S a b c d e f g j l n o p q s u x z A C D F H I O h;obtain rfl:k=y.rs:=oM;generalize hL:Item.inLoop bD=L0;simp only[bD,bK,f53,ZR,tm];refine .ctl L rfl (λv _=>J _ v) (λv=>ZH) ?_;refine ck L (λv _=>J _ v) rfl fX ?_;simp only[aah,Z6,aaA,Nat.reduceAdd,Z8,List.range,List.range.loop];refine aB rfl rfl λv W K' P=>?_;replace h:=h.rely hK V Y W;have Q:N<=v:=Zz O W.size;clear W;go_simp;refine P _ _ ⟨by rw[aaw (by simp[go_sem, *])];exact J _ _,?_⟩;clear P K';rw[al rfl];refine bL L (λv _=>J _ v) ?_;refine .ctl L rfl (λv _=>J _ v) (λv=>ZH) ?_;refine .ctl L rfl (λv _=>J _ v) (λv=>acN (t:=false) (by simp[Act.eval])) ?_;simp only[abI,acd];subst hL;refine .ctl L rfl (λv _=>J _ v) (λv=>stepG_exit (k':=todo) rfl) ?_;exact hX _ _ _ (h.lo Q)
 |succ m ih=>
  intro k hk N M w R S a b c d e f g j l n o p q s u x z A C D F H I O h;refine LP hK X Y oM U h λM' w' R S a b c d e f g j l n o p q s u x z A C D F H I h'=>?_;refine .ctl L rfl (λv _=>J _ v) (λv=>adW) ?_;exact ih (k+1) oM _ _ _ _ _ _ _ _ _ _ _ _ _ _ _ _ _ _ _ _ _ _ _ _ _ _ _ _ (Zo _) h'
def Lq(hK:K.Laws)(u:K.ty=link.tWg)(G:K.Fl=FlB K.E B){H:Nat->List Rec}(N:K.Out=Ho K.C K.E H)(k:y.Ok K Fz)(l:H y.i=y.rs)(x:∀r,r∈y.rs->r.res.2.1<256/\r.res.2.1|||B=B)
 (h:Hd K y Fz 0 0 M w):an prog false (RK K y.i Fz) (DK K y.i Fz) (SR0 prog K y.i) (born prog (call53 K.Wg y)) M w:=by
 have b:=aeV K hK y.i Fz;have a:∀M v,DK K y.i Fz M v v #[]:=JJ hK;have m:∃B,K.Fl=FlB K.E B:=⟨B,G⟩;refine .ctl b rfl (λv _=>a _ v) (λv=>Qr K.Wg y v) ?_;simp only[bK,f53,ZR,tm0];refine .ctl b rfl (λv _=>a _ v) (λv=>ZH) ?_;refine .ctl b rfl (λv _=>a _ v) (λv=>acU) ?_;simp only[aah,Z6,aaA,Nat.reduceAdd,Z8,List.range,List.range.loop];refine .ctl b rfl (λv _=>a _ v) (λv=>stepG_defer rfl rfl fX rfl) ?_;refine .ctl b rfl (λv _=>a _ v) (λv=>Zw) ?_;refine .ctl b rfl (λv _=>a _ v) (λv=>ZH) ?_
 walk_nrm
 refine ck b (λv _=>a _ v) rfl fX ?_;simp only[aah,Z6,aaA,Nat.reduceAdd,Z8,List.range,List.range.loop];refine aB rfl rfl λv n z j=>?_;replace h:=h.rely hK m k n;clear n;have O:=h.kn.hl;go_simp;refine j _ _ ⟨aeY hK v λe Q=>(by have I:=abf Q;simp[go_sem, *]at I;subst I;exact l7 _ k.lB (h.gk.fz _ k.lB).2 _),?_⟩;clear j z O;rw[al rfl]
 iterate 2
  refine aB rfl rfl λv n z j=>?_;replace h:=(h.rely hK m k n);clear n;go_simp;refine j _ _ ⟨by rw[aaw (by simp[go_sem, *])];exact a _ _,?_⟩;clear j z;rw[al rfl]
 refine bL b (λv _=>a _ v) ?_;refine .ctl b rfl (λv _=>a _ v) (λv=>acj) ?_;refine .ctl b rfl (λv _=>a _ v) (λv=>stepG_loop) ?_;refine Aa hK G k x (cs:=[bot]) (todo:=[]) (df:=[dcall 54 #[pT K.Wg 0]]) (λM' w' T h=>?_) y.rs 0 (Z8 _) _ _ _ _ _ _ _ _ _ _ _ _ _ _ _ _ _ _ _ _ _ _ _ _ _ _ _ _ (Z7 _) h;refine .ctl b rfl (λv _=>a _ v) (λv=>stepG_end) ?_;refine .ctl b rfl (λv _=>a _ v) (λv=>stepG_unwind_enter rfl func54 (by kernel_rfl) rfl) ?_;obtain⟨s,o,p,A⟩:=h.s;rw[aaL]at p;have q:K.Out y.i M' w':=by
  obtain⟨f,L⟩:=h.f;rw[aaL]at L;rw[N];exact⟨s,o,by rw[l];exact p,λg F=>(A g F).1,f,by rw[l];exact L⟩
 have R:=UF (P:=prog) (M:=M') (Fz:=Fz) (i:=y.i) (val:=s) hK vk u (c:={b53.at ⟨T,[]⟩ []with mode:=.returning}) (cs:=[bot]) rfl (Mf T) w' ⟨h.kn.live,o⟩;have F:=(an.of_goesM (D:=λ_ v v' es=>v'=v/\es=#[]) (λv v' es d=>⟨d,by rw[d.1]⟩) R).keepD (J:=λM w=>K.Out y.i M w) (D':=DK K y.i Fz)
  (λM w v t r=>hK.out _ _ _ _ t r.mine r.more.cell r.more.fl) (λM v v' es t d=>by obtain⟨rfl,rfl⟩:=d;rw[al rfl];exact⟨a _ _,t⟩) q
 refine F.mono (λ_ _ h=>h) (λ_ _ _ _ h=>h) ?_;rintro g M w⟨⟨rfl,S,_,U⟩,t⟩;exact⟨S,t,U⟩
end
end
section
open Go.Conc Go.ConcN Go.RowKit Go.Conc.Lib Go.ConcR.Gen Go.ConcN.Gen
open Go.ConcR (KK wgBlock WgAt stA smA rd wr mk Payload DC0)
variable[Payload]{L:WgLink}
omit [Payload]in
def an.of_still{P:E2}{main:Bool}{R:AK->AK->Prop}{D:(Nat->Prop)->AK->AK->Array Nc->Prop}{M:Nat->Prop}{S:Ar->AK->Prop}(d:∀v,D M v v #[]):
 ∀{n:Nat}{g:Ar}{w:AK},Goes P main (Rel R M) DC0 S n g w->an P main R D (λg M' w=>M'=M/\S g w) g M w
 |0,g,w,h=>.stop λv a=>⟨rfl,h v a⟩
 |n+1,g,w,h=>by
  rcases h with h|⟨e,h⟩
  .exact .stop λv a=>⟨rfl,h v a⟩
  have c:∀v,bP M v v=M:=λv=>funext λb=>propext ⟨λh=>h.elim id λh=>oM,.inl⟩;refine .step e (λv a=>?_) λv g' v' es a f=>?_
  .have:=h v a;revert this;cases KC P main g v<;>simp only[GStep.goes,aem];rintro⟨⟨rfl,rfl⟩,_⟩;exact d _
  have:=h v a;rw[f]at this;obtain⟨⟨rfl,rfl⟩,i⟩:=this;rw[c];exact an.of_still d i
def ae4:=@an.of_still
section
variable{P:E2}{K:bW}{Fz M:Nat->Prop}{w:AK}{g:Ar}{Stop:Ar->(Nat->Prop)->AK->Prop}
omit [Payload]in
def D0.still(v:AK):D0 K Fz M v v #[]:=⟨rfl,rfl,rfl,Zo _,λ_ _ _=>rfl,sM⟩
def ae5:=@D0.still
omit [Payload]in
def an.lift{n:Nat}(h:Goes P true (Rel (R0 K Fz) M) DC0 (λg w=>Stop g M w) n g w):an P true (R0 K Fz) (D0 K Fz) Stop g M w:=
 (ae4 (λv=>ae5 v) h).mono (λ_ _ h=>h) (λ_ _ _ _ h=>h) λg M' w h=>by obtain⟨rfl,h⟩:=h;exact h
def ae6:=@an.lift
omit [Payload]in
def wv(m:Mark)(i:m=.read (smA K.Wg)\/m=.write (smA K.Wg))(j:g.status=.running)(k:WgLive K.ty K.Wg w)
 (h:∀v,Rel (R0 K Fz) M w v->∃g',KC P true g v=.go g' v #[mk m]/\an P true (R0 K Fz) (D0 K Fz) Stop g' M v):an P true (R0 K Fz) (D0 K Fz) Stop g M w:=by
 refine an.one j λv f=>?_;obtain⟨g',l,n⟩:=h v f;have c:bP M v v=M:=funext λb=>propext ⟨λh=>h.elim id λh=>oM,.inl⟩;refine⟨g',v,_,l,⟨rfl,rfl,rfl,Zo _,λ_ _ _=>rfl,λe a=>?_⟩,by rw[c];exact n⟩;simp only[aaX,aag]at a;subst a;have d:K.Wg<v:=by
  obtain⟨st,p,o⟩:=f.more.live k;exact(Zq.1 o).1
 rcases i with rfl|rfl
 .exact⟨λx a=>by simp only[mk,MemAct.ofEvent,MemAct.touch?,Zt]at a;subst a;exact .inr (.inr ⟨⟨_,rfl,rfl⟩,sM⟩),by simp[mk],by simp[mk],by simp[mk],d⟩
 exact⟨λx a=>by simp only[mk,MemAct.ofEvent,MemAct.touch?,Zt]at a;subst a;exact .inr (.inr ⟨⟨_,rfl,rfl⟩,sM⟩),by simp[mk],by simp[mk],by simp[mk],d⟩
end
section
variable{P:E2}{K:bW}{Fz M:Nat->Prop}{j:Nat}{Next:(Nat->Prop)->Ar->AK->Prop}{I:AK->Prop}
 {b₀:K0}{a₀:Act}{ops₀:Array Oper}{i₀:Nat}{rest₀:List Nat}{k₀:List Item}{cs:List K0}
omit [Payload]in
def MP(c:∀w v,I w->Rel (R0 K Fz) M w v->I v){w v:AK}(h:I w/\WgLive K.ty K.Wg w)(r:Rel (R0 K Fz) M w v):I v/\WgLive K.ty K.Wg v:=⟨c _ _ h.1 r,r.more.live h.2⟩
def OW(H:WgLib P L)(e:K.ty=L.tWg)(x:∀w v,I w->Rel (R0 K Fz) M w v->I v)(m:∀w v,I w->Conc.Aside K.Wg w v->I v)
 (s:∀w,I w->WgLive K.ty K.Wg w->an P true (R0 K Fz) (D0 K Fz) (SGo P K Fz j Next) (G (b₀.at (a₀.put ((ops₀[i₀]?).bind (·.dst)) (.tuple #[])) (.inRegion ops₀ rest₀::k₀)) cs) M w)
 (w:AK)(c:I w/\WgLive K.ty K.Wg w):
 an P true (R0 K Fz) (D0 K Fz) (Hm P K Fz j Next) (G ((base L.add).at {tmps:=#[pT K.Wg 0,iI 1]++Array.replicate ((addFn L).ntmps-2) C0,defers:=[]} [.code (body_add L)]) (b₀.at a₀ (.inRegion ops₀ (i₀::rest₀)::k₀)::cs)) M w:=by
 lib_facts
 rw[e]at c s;have d:∀{w v},I w/\WgLive L.tWg K.Wg w->Rel (R0 K Fz) M w v->I v/\WgLive L.tWg K.Wg v:=λh r=>by have:=MP (K:=K) x (by rw[e];exact h) r;rwa [e]at this
 refine ae6 (n:=40) ?_;simp only[body_add,addFn,ZR]
 walk_nrm
 u_c ZH d c
 u_cond true d c
 u_c ZH d c
 u_c ZH d c
 u_reg d c
 u_op d c
 u_op d c
 u_c Zw d c
 u_cond false d c
 u_c abn d c
 u_c ZH d c
 u_reg d c
 refine abg (λw₁ h₁=>?_);replace c:=d c h₁;clear h₁;refine⟨rfl,_,aea .disable sM rfl rfl (by k_ne) rfl H.f_disable (x_disable_n L) (x_disable_b L) (x_disable_x L) (x_disable_f L),ae6 (n:=60) ?_⟩
 walk_nrm
 u_c Zw d c
 u_reg d c
 u_defer d c
 u_c Zw d c
 u_c ZH d c
 u_reg d c
 u_op d c
 u_c Zw d c
 u_c ZH d c
 u_c ZH d c
 u_reg d c
 u_bub d c
 u_c Zw d c
 u_cond false d c
 u_c abn d c
 u_c ZH d c
 u_reg d c
 u_op d c
 u_op d c
 u_op d c
 u_op d c
 u_op d c
 u_op d c
 u_call H.f_uAdd (nm_uAdd L) uAddFn d c
 u_c ZH d c
 u_reg d c
 u_op d c
 u_c Zw d c
 u_c ZH d c
 u_reg d c
 u_op d c
 u_op d c
 u_op d c
 u_op d c
 refine abg (λw₂ h₂=>?_);replace c:=d c h₂;clear h₂;refine⟨rfl,λv t f=>?_⟩;rw[e]at f;rcases aaq v with rfl|y
 .
  replace f:WgAt L.tWg K.Wg w₂ 0 0:=by simpa using f
  have z:(((0:Nat):Int)+1)*KK=KK:=sM;rw[z];have A:IntKind.u64.wrap (0+4294967296)=KK:=dC;refine⟨_,(stepG_add_atomic rfl rfl (by k_ne) rfl H.f_addU64 (x_addU64_n L) (x_addU64_b L) (x_addU64_x L) .u64 (x_addU64_f L) rfl rfl f.cellSt (f.thaw 0)).trans (by rw[A];rfl),?_⟩;replace c:I (w₂.setCell (stA K.Wg) (iU KK))/\WgLive L.tWg K.Wg (w₂.setCell (stA K.Wg) (iU KK)):=⟨m _ _ c.1 (abL w₂ (stA K.Wg) _),⟨_,_,f.setSt _⟩⟩;clear f;simp only[KK]at c⊢;refine aen (Stop:=λg M' w=>M'=M/\(g.status=.running/\∀v,Rel (R0 K Fz) M w v->∃g',KC P true g v=.go g' v #[mk (.read (smA K.Wg))]/\an P true (R0 K Fz) (D0 K Fz) (QT P K Fz j Next) g' M v)/\WgLive K.ty K.Wg w) (aeW K Fz) ((ae4 (n:=80) (λv=>ae5 v) ?_).mono (λ_ _ h=>h) (λ_ _ _ _ h=>h) λ_ _ _ h=>h) ?_;rotate_left
  .rintro g _ w⟨rfl,⟨o,p⟩,B⟩;exact wv _ (.inl rfl) o B p
  walk_nrm
  u_op d c
  u_c Zw d c
  u_c abQ d c
  u_leave1 H.f_uAdd d c
  u_op d c
  u_c Zw d c
  u_c ZH d c
  u_c ZH d c
  u_reg d c
  u_op d c
  u_op d c
  u_op d c
  u_op d c
  u_skip d c
  u_skip d c
  u_op d c
  u_c Zw d c
  u_cond false d c
  u_c abn d c
  u_c ZH d c
  u_reg d c
  u_op d c
  u_op d c
  u_op d c
  u_op d c
  u_c Zw d c
  u_c ZH d c
  u_reg d c
  u_op d c
  u_op d c
  u_op d c
  u_op d c
  u_c Zw d c
  u_c ZH d c
  u_c ZH d c
  u_reg d c
  u_op d c
  u_op d c
  u_op d c
  u_op d c
  u_op d c
  u_op d c
  u_op d c
  u_op d c
  u_op d c
  u_op d c
  u_c Zw d c
  u_cond true d c
  u_reg d c
  u_op d c
  u_op d c
  u_op d c
  u_conv H.underlying_tPU32 H.room_tU32 (WgLive.cell1 c.2).choose_spec d c
  refine abg (λw₃ h₃=>?_);replace c:=d c h₃;clear h₃;refine⟨⟨rfl,λv t=>⟨_,adV .read sM rfl rfl (by k_ne) rfl H.f_raceRead (x_raceRead_n L) (x_raceRead_b L) (x_raceRead_x L) (x_raceRead_f L) (ad:=aD K.Wg 1) (by simp[Act.eval]),ae6 (n:=80) ?_⟩⟩,by rw[e];exact c.2⟩;replace c:=d c t;clear t
  walk_nrm
  u_c Zw d c
  u_c ZH d c
  u_c ZH d c
  u_reg d c
  u_op d c
  u_op d c
  u_c Zw d c
  u_cond false d c
  u_c abn d c
  u_c ZH d c
  u_c ZH d c
  u_reg d c
  u_op d c
  u_op d c
  u_op d c
  u_skip d c
  u_skip d c
  u_op d c
  u_op d c
  u_skip d c
  u_skip d c
  u_skip d c
  u_skip d c
  u_op d c
  u_c Zw d c
  u_cond false d c
  u_c abn d c
  u_c ZH d c
  u_c ZH d c
  u_reg d c
  u_op d c
  u_op d c
  u_op d c
  u_skip d c
  u_skip d c
  u_op d c
  u_c Zw d c
  u_cond true d c
  u_c abQ d c
  refine abg (λw₃ h₃=>?_);replace c:=d c h₃;clear h₃;refine⟨rfl,_,stepG_unwind_entry (v:=.tuple #[]) (evs:=#[mk .enable]) rfl H.f_enable (x_enable_n L) (x_enable_b L) (x_enable_x L) (x_enable_f L) (by simp[Extern.Race.none_]) (by simp[mk]) (by simp[mk]),?_⟩;refine aen (aeW K Fz) (ae4 (S:=λg w=>g=G (b₀.at (a₀.put ((ops₀[i₀]?).bind (·.dst)) (.tuple #[])) (.inRegion ops₀ rest₀::k₀)) cs/\I w/\WgLive L.tWg K.Wg w) (n:=3) (λv=>ae5 v) ?_) (by rintro _ _ w⟨rfl,rfl,o,p⟩;exact s w o p)
  u_leave0 H.f_add d c
  exact abg λw h=>⟨rfl,d c h⟩
 
 obtain⟨V,q⟩:∃V:Int,V=(v:Int)+1:=⟨_,rfl⟩;obtain⟨S,l⟩:∃S:Int,S=V*KK:=⟨_,rfl⟩;have u:IntKind.u64.wrap ((v:Int)*KK+4294967296)=S:=by rw[ZV,l,q];simp only[KK];omega
 rw[<-q,<-l];have E:S/4294967296=V:=by rw[l];simp only[KK];omega
 have F:Na .and .u64 S 2147483648=0:=by rw[l,q];have:=st_flag (v+1) 0 oM oM;simpa[KK]using this
 have J:Na .and .u64 S 2147483647=0:=by rw[l,q];have:=st_waiters (v+1) 0 oM oM;simpa[KK]using this
 have N:IntKind.i32.wrap V=V:=by rw[IntKind.wrap_i32];omega
 have C:1<V:=oM;have D:V<2147483648:=oM;have q1:(V==1)=false:=by simp;omega
 have O:decide (V=1)=false:=Zv oM;have Q:decide (V<0)=false:=Zv oM;have R:decide (0<V):=ZP oM;have T:(V==0)=false:=by simp;omega
 have U:decide (V=0)=false:=Zv oM;refine⟨_,(stepG_add_atomic rfl rfl (by k_ne) rfl H.f_addU64 (x_addU64_n L) (x_addU64_b L) (x_addU64_x L) .u64 (x_addU64_f L) rfl rfl f.cellSt (f.thaw 0)).trans (by rw[u];rfl),ae6 (n:=120) ?_⟩;replace c:I (w₂.setCell (stA K.Wg) (iU S))/\WgLive L.tWg K.Wg (w₂.setCell (stA K.Wg) (iU S)):=⟨m _ _ c.1 (abL w₂ (stA K.Wg) _),⟨_,_,f.setSt _⟩⟩;clear f l q u
 walk_nrm
 u_op d c
 u_c Zw d c
 u_c abQ d c
 u_leave1 H.f_uAdd d c
 u_op d c
 u_c Zw d c
 u_c ZH d c
 u_c ZH d c
 u_reg d c
 u_op d c
 u_op d c
 u_op d c
 u_op d c
 u_skip d c
 u_skip d c
 u_op d c
 u_c Zw d c
 u_cnd false d c
 u_c abn d c
 u_c ZH d c
 u_reg d c
 u_op d c
 u_op d c
 u_op d c
 u_op d c
 u_c Zw d c
 u_c ZH d c
 u_reg d c
 u_op d c
 u_op d c
 u_op d c
 u_op d c
 u_c Zw d c
 u_c ZH d c
 u_c ZH d c
 u_reg d c
 u_op d c
 u_op d c
 u_op d c
 u_op d c
 u_op d c
 u_op d c
 u_op d c
 u_op d c
 u_op d c
 u_op d c
 u_c Zw d c
 u_cnd false d c
 u_c abn d c
 u_c ZH d c
 u_c ZH d c
 u_reg d c
 u_op d c
 u_op d c
 u_c Zw d c
 u_cnd false d c
 u_c abn d c
 u_c ZH d c
 u_c ZH d c
 u_reg d c
 u_op d c
 u_op d c
 u_op d c
 u_skip d c
 u_skip d c
 u_op d c
 u_op d c
 u_skip d c
 u_skip d c
 u_skip d c
 u_skip d c
 u_op d c
 u_c Zw d c
 u_cnd false d c
 u_c abn d c
 u_c ZH d c
 u_c ZH d c
 u_reg d c
 u_op d c
 u_op d c
 u_op d c
 u_skip d c
 u_skip d c
 u_op d c
 u_c Zw d c
 u_cnd true d c
 u_c abQ d c
 refine abg (λw₃ h₃=>?_);replace c:=d c h₃;clear h₃;refine⟨rfl,_,stepG_unwind_entry (v:=.tuple #[]) (evs:=#[mk .enable]) rfl H.f_enable (x_enable_n L) (x_enable_b L) (x_enable_x L) (x_enable_f L) (by simp[Extern.Race.none_]) (by simp[mk]) (by simp[mk]),?_⟩;refine aen (aeW K Fz) (ae4 (S:=λg w=>g=G (b₀.at (a₀.put ((ops₀[i₀]?).bind (·.dst)) (.tuple #[])) (.inRegion ops₀ rest₀::k₀)) cs/\I w/\WgLive L.tWg K.Wg w) (n:=3) (λv=>ae5 v) ?_) (by rintro _ _ w⟨rfl,rfl,o,p⟩;exact s w o p)
 u_leave0 H.f_add d c
 exact abg λw h=>⟨rfl,d c h⟩
end
end
section
open Go.Conc Go.ConcN Go.RowKit Go.Conc.Lib Go.ConcR.Gen Go.ConcN.Gen
open Go.ConcR (KK wgBlock WgAt stA smA rd wr mk Payload DC0)
variable[Payload]{L:WgLink}
section
variable{P:E2}{K:bW}{Fz M:Nat->Prop}{b₀:K0}{a₀:Act}{ops₀:Array Oper}{i₀:Nat}{rest₀:List Nat}{k₀:List Item}{cs:List K0}
omit [Payload]in
def Q3(P:E2)(b₀:K0)(a₀:Act)(ops₀:Array Oper)(i₀:Nat)(rest₀:List Nat)(k₀:List Item)(cs:List K0)(g:Ar)(c:Nat->Prop)(w:AK):Prop:=
 an P true du (λ_ v v' es=>v'=v/\es=#[]) (λg _ _=>g=G (b₀.at (a₀.put ((ops₀[i₀]?).bind (·.dst)) (.tuple #[])) (.inRegion ops₀ rest₀::k₀)) cs) g (λ_=>False) w
def AnW(L:WgLink)(K:bW)(c:K0)(cs:List K0)(g:Ar)(d:Nat->Prop)(w:AK):Prop:=AnchWN L (λ_=>True) K.Wg c cs g w
omit [Payload]in
def Rb(H:WgLib P L)(m:K.ty=L.tWg)(g:Ar)(w:AK)(h:AnchWN L (λ_=>True) K.Wg (b₀.at a₀ (.inRegion ops₀ (i₀::rest₀)::k₀)) cs g w):
 an P true (R0 K Fz) (D0 K Fz) (SW1 P K Fz (AnW L K (b₀.at a₀ (.inRegion ops₀ (i₀::rest₀)::k₀)) cs) (Q3 P b₀ a₀ ops₀ i₀ rest₀ k₀ cs)) g M w:=by
 lib_facts
 have d:∀{w v},WgLive L.tWg K.Wg w->Rel (R0 K Fz) M w v->WgLive L.tWg K.Wg v:=λh r=>by rw[<-m]at h⊢;exact r.more.live h
 obtain⟨T,rfl,p,t0,_,c⟩:=h;obtain⟨v0,v1,v2,v3,v4,v5,v6,v7,v8,v9,t,x,y,z,A,B,C,E,F,I,J,N,O,Q,R,U,V,W,X,Y,Z,aa,ab,ac,ag,am,ao,ap,ar,av,aw,aM,aR,aS,a0,a2,a3,a4,a5,a6,a9,bb,bg,bi,bm,bo,bp,bs,bt,bv,bw,bB,bM,bS,b0,b3,b4,b5,b6,b7,b8,ca,cc,cd,ce,cg,ch,ci,cj,cl,cm,co,cp,cq,rfl⟩:=array84 T p;simp only[ZT,ZE,Zt]at t0;subst t0;refine ae6 (n:=40) ?_;simp only[L7,body_wait,waitFn,ZR]
 u_c acj d c
 u_c ZH d c
 u_reg d c
 u_op d c
 u_op d c
 u_op d c
 u_call H.f_uLoad (nm_uLoad L) uLoadFn d c
 u_c ZH d c
 u_reg d c
 u_op d c
 u_c Zw d c
 u_c ZH d c
 u_reg d c
 u_op d c
 u_op d c
 u_op d c
 refine abg (λw₁ h₁=>?_);replace c:=d c h₁;clear h₁;refine⟨rfl,λv s l=>?_⟩;rw[m]at l;rcases aaq v with rfl|cr
 .
  replace l:WgAt L.tWg K.Wg w₁ 0 0:=by simpa using l
  refine⟨_,stepG_load_atomic (v:=0) rfl rfl (by k_ne) rfl H.f_loadU64 (x_loadU64_n L) (x_loadU64_b L) (x_loadU64_x L) .u64 (x_loadU64_f L) rfl l.cellSt,λ_=>ae6 (n:=60) ?_,λh=>absurd rfl h⟩;clear l
  walk_nrm
  u_op d c
  u_c Zw d c
  u_c abQ d c
  u_leave1 H.f_uLoad d c
  u_op d c
  u_c Zw d c
  u_c ZH d c
  u_reg d c
  u_op d c
  u_op d c
  u_op d c
  u_op d c
  u_c Zw d c
  u_c ZH d c
  u_reg d c
  u_op d c
  u_op d c
  u_op d c
  u_op d c
  u_c Zw d c
  u_c ZH d c
  u_c ZH d c
  u_reg d c
  u_op d c
  u_op d c
  u_c Zw d c
  u_cond true d c
  u_c ZH d c
  u_cond true d c
  u_c ZH d c
  u_reg d c
  refine abg (λw₅ h₅=>?_);replace c:=d c h₅;clear h₅;refine⟨rfl,_,aea .enable sM rfl rfl (by k_ne) rfl H.f_enable (x_enable_n L) (x_enable_b L) (x_enable_x L) (x_enable_f L),ae6 (n:=12) ?_⟩
  walk_nrm
  u_c Zw d c
  u_reg d c
  u_op d c
  u_conv H.underlying_tWgP H.room_tWg (WgLive.cell0 c).choose_spec d c
  refine abg (λw₆ h₆=>?_);replace c:=d c h₆;clear h₆;refine⟨rfl,_,adV .acquire sM rfl rfl (by k_ne) rfl H.f_acquire (x_acquire_n L) (x_acquire_b L) (x_acquire_x L) (x_acquire_f L) (by simp[Act.eval,stA]),?_⟩;refine(ae4 (n:=40) (D:=λ_ v v' es=>v'=v/\es=#[]) (S:=λg _=>g=G (b₀.at (a₀.put ((ops₀[i₀]?).bind (·.dst)) (.tuple #[])) (.inRegion ops₀ rest₀::k₀)) cs) (λ_=>⟨rfl,rfl⟩) ?_).mono (λ_ _ h=>h) (λ_ _ _ _ h=>h) (λ_ _ _ h=>h.2);have f:True:=trivial;have j:∀{v u:AK},True->Rel du (λ_=>False) v u->True:=λ_ _=>trivial
  walk_nrm
  u_c Zw j f
  u_c ZH j f
  u_c ZH j f
  u_reg j f
  u_op j f
  u_op j f
  u_op j f
  u_op j f
  u_op j f
  u_op j f
  u_op j f
  u_op j f
  u_skip j f
  u_skip j f
  u_op j f
  u_c Zw j f
  u_cond false j f
  u_c abn j f
  u_c abQ j f
  u_leave0 H.f_wait j f
  exact abg λ_ _=>rfl
 
 obtain⟨S,o⟩:∃S:Int,(v:Int)*KK=S:=⟨_,rfl⟩;have a1:S/4294967296=(v:Int):=by rw[<-o];simp only[KK];omega
 have b1:Na .and .u64 S 2147483648=0:=by rw[<-o];have:=st_flag v 0 oM oM;simpa[KK]using this
 have b2:Na .and .u64 S 2147483647=0:=by rw[<-o];have:=st_waiters v 0 oM oM;simpa[KK]using this
 have c1:IntKind.i32.wrap (v:Int)=(v:Int):=by rw[IntKind.wrap_i32];omega
 have w1:IntKind.u64.wrap (S+1)=S+1:=by rw[ZV,<-o];simp only[KK];omega
 have q3:decide ((v:Int)<0)=false:=Zv oM;have q4:decide (0<(v:Int)):=ZP oM;have q5:((v:Int)==0)=false:=by simp;omega
 have q6:decide ((v:Int)=0)=false:=Zv oM;rw[o]at l;refine⟨_,stepG_load_atomic (v:=S) rfl rfl (by k_ne) rfl H.f_loadU64 (x_loadU64_n L) (x_loadU64_b L) (x_loadU64_x L) .u64 (x_loadU64_f L) rfl l.cellSt,λh0=>absurd h0 oM,λ_=>ae6 (n:=80) ?_⟩;clear l
 walk_nrm
 u_op d c
 u_c Zw d c
 u_c abQ d c
 u_leave1 H.f_uLoad d c
 u_op d c
 u_c Zw d c
 u_c ZH d c
 u_reg d c
 u_op d c
 u_op d c
 u_op d c
 u_op d c
 u_c Zw d c
 u_c ZH d c
 u_reg d c
 u_op d c
 u_op d c
 u_op d c
 u_op d c
 u_c Zw d c
 u_c ZH d c
 u_c ZH d c
 u_reg d c
 u_op d c
 u_op d c
 u_c Zw d c
 u_cnd false d c
 u_c abn d c
 u_c ZH d c
 u_reg d c
 u_op d c
 u_op d c
 u_op d c
 u_op d c
 u_op d c
 u_op d c
 u_call H.f_uCas (nm_uCas L) uCasFn d c
 u_c ZH d c
 u_reg d c
 u_op d c
 u_c Zw d c
 u_c ZH d c
 u_reg d c
 u_op d c
 u_op d c
 u_op d c
 u_op d c
 u_op d c
 refine abg (λw₂ h₂=>?_);replace c:=d c h₂;clear h₂;refine⟨rfl,λv' hv' l=>⟨λe=>?_,λe=>?_⟩⟩
 .
  subst e;rw[m,o]at l;rw[o];refine⟨_,(stepG_cas_hit (v:=S) (n:=S+1) rfl rfl (by k_ne) rfl H.f_casU64 (x_casU64_n L) (x_casU64_b L) (x_casU64_x L) .u64 (x_casU64_f L) rfl rfl rfl l.cellSt (l.thaw 0)).trans (by rfl),?_⟩;replace c:WgLive L.tWg K.Wg (w₂.setCell (stA K.Wg) (iU (S+1))):=⟨_,_,l.setSt _⟩;clear l;refine aen (Stop:=λg M' w=>M'=M/\(g.status=.running/\∀v,Rel (R0 K Fz) M w v->∃g',KC P true g v=.go g' v #[mk (.write (smA K.Wg))]/\an P true (R0 K Fz) (D0 K Fz) (SW3 P K Fz (Q3 P b₀ a₀ ops₀ i₀ rest₀ k₀ cs)) g' M v)/\WgLive K.ty K.Wg w) (aeW K Fz) ((ae4 (n:=80) (λv=>ae5 v) ?_).mono (λ_ _ h=>h) (λ_ _ _ _ h=>h) λ_ _ _ h=>h) ?_;rotate_left
  .rintro g _ w⟨rfl,⟨h1,h2⟩,h3⟩;exact wv _ (.inr rfl) h1 h3 h2
  walk_nrm
  u_op d c
  u_c Zw d c
  u_c abQ d c
  u_leave1 H.f_uCas d c
  u_c Zw d c
  u_cond true d c
  u_c ZH d c
  u_c ZH d c
  u_reg d c
  u_op d c
  u_op d c
  u_op d c
  u_op d c
  u_c Zw d c
  u_cond true d c
  u_reg d c
  u_op d c
  u_op d c
  u_op d c
  u_conv H.underlying_tPU32 H.room_tU32 (WgLive.cell1 c).choose_spec d c
  refine abg (λw₃ h₃=>?_);replace c:=d c h₃;clear h₃;refine⟨⟨rfl,λv s=>⟨_,adV .write sM rfl rfl (by k_ne) rfl H.f_raceWrite (x_raceWrite_n L) (x_raceWrite_b L) (x_raceWrite_x L) (x_raceWrite_f L) (ad:=aD K.Wg 1) (by simp[Act.eval]),ae6 (n:=80) ?_⟩⟩,by rw[m];exact c⟩;replace c:=d c s;clear s
  walk_nrm
  u_c Zw d c
  u_c ZH d c
  u_reg d c
  u_op d c
  u_c Zw d c
  u_c ZH d c
  u_c ZH d c
  u_reg d c
  u_op d c
  u_op d c
  u_op d c
  u_op d c
  u_skip d c
  u_op d c
  u_c Zw d c
  u_cond false d c
  u_c abn d c
  u_c ZH d c
  u_reg d c
  u_op d c
  u_op d c
  u_op d c
  u_op d c
  refine abg (λw₃ h₃=>?_);replace c:=d c h₃;clear h₃;refine⟨rfl,rfl,λ⟨st,l⟩=>stepG_semacquire_wait rfl rfl rfl H.f_semacquire (x_semacquire_n L) (x_semacquire_b L) (x_semacquire_x L) (x_semacquire_f L) (by simp[Act.eval,smA]) l.cellSm,λq=>?_⟩;rw[m]at q;refine⟨_,(stepG_semacquire (n:=1) rfl rfl (by k_ne) rfl H.f_semacquire (x_semacquire_n L) (x_semacquire_b L) (x_semacquire_x L) (x_semacquire_f L) (by simp[Act.eval,smA]) q.cellSm (by k_ne) (q.thaw 1)).trans (by rfl),ae6 (n:=60) ?_⟩;replace c:WgLive L.tWg K.Wg (w₃.setCell (smA K.Wg) (iH 0)):=⟨_,_,q.setSm 0⟩;clear q
  walk_nrm
  u_c Zw d c
  u_c ZH d c
  u_reg d c
  u_op d c
  u_op d c
  u_op d c
  u_call H.f_uLoad (nm_uLoad L) uLoadFn d c
  u_c ZH d c
  u_reg d c
  u_op d c
  u_c Zw d c
  u_c ZH d c
  u_reg d c
  u_op d c
  u_op d c
  u_op d c
  refine abg (λw₄ h₄=>?_);replace c:=d c h₄;clear h₄;refine⟨rfl,λl=>⟨_,stepG_load_atomic (v:=0) rfl rfl (by k_ne) rfl H.f_loadU64 (x_loadU64_n L) (x_loadU64_b L) (x_loadU64_x L) .u64 (x_loadU64_f L) rfl l.cellSt,ae6 (n:=60) ?_⟩⟩;clear l
  walk_nrm
  u_op d c
  u_c Zw d c
  u_c abQ d c
  u_leave1 H.f_uLoad d c
  u_op d c
  u_op d c
  u_c Zw d c
  u_c ZH d c
  u_cond true d c
  u_c ZH d c
  u_reg d c
  refine abg (λw₅ h₅=>?_);replace c:=d c h₅;clear h₅;refine⟨rfl,_,aea .enable sM rfl rfl (by k_ne) rfl H.f_enable (x_enable_n L) (x_enable_b L) (x_enable_x L) (x_enable_f L),ae6 (n:=12) ?_⟩
  walk_nrm
  u_c Zw d c
  u_reg d c
  u_op d c
  u_conv H.underlying_tWgP H.room_tWg (WgLive.cell0 c).choose_spec d c
  refine abg (λw₆ h₆=>?_);replace c:=d c h₆;clear h₆;refine⟨rfl,_,adV .acquire sM rfl rfl (by k_ne) rfl H.f_acquire (x_acquire_n L) (x_acquire_b L) (x_acquire_x L) (x_acquire_f L) (by simp[Act.eval,stA]),?_⟩;refine(ae4 (n:=40) (D:=λ_ v v' es=>v'=v/\es=#[]) (S:=λg _=>g=G (b₀.at (a₀.put ((ops₀[i₀]?).bind (·.dst)) (.tuple #[])) (.inRegion ops₀ rest₀::k₀)) cs) (λ_=>⟨rfl,rfl⟩) ?_).mono (λ_ _ h=>h) (λ_ _ _ _ h=>h) (λ_ _ _ h=>h.2);have f:True:=trivial;have j:∀{v u:AK},True->Rel du (λ_=>False) v u->True:=λ_ _=>trivial
  walk_nrm
  u_c Zw j f
  u_c ZH j f
  u_c ZH j f
  u_reg j f
  u_op j f
  u_c Zw j f
  u_cond false j f
  u_c abn j f
  u_c abQ j f
  u_leave0 H.f_wait j f
  exact abg λ_ _=>rfl
 
 rw[m]at l;refine⟨_,stepG_cas_miss (v:=(v':Int)*KK) (old:=S) (n:=S+1) rfl rfl (by k_ne) rfl H.f_casU64 (x_casU64_n L) (x_casU64_b L) (x_casU64_x L) .u64 (x_casU64_f L) rfl rfl rfl l.cellSt (l.thaw 0) (by rw[<-o];simp only[KK];omega),ae6 (n:=30) ?_⟩;clear l
 walk_nrm
 u_op d c
 u_c Zw d c
 u_c abQ d c
 u_leave1 H.f_uCas d c
 u_c Zw d c
 u_cond false d c
 u_c abn d c
 u_c adG d c
 u_c adW d c
 refine abg (λw₃ h₃=>?_);exact⟨_,rfl,sM,sM,trivial,d c h₃⟩
omit [Payload]in
def Bz(H:WgLib P L)(e:K.ty=L.tWg)(w:AK)(c:WgLive K.ty K.Wg w):
 an P true (R0 K Fz) (D0 K Fz) (SKd P K Fz (AnW L K (b₀.at a₀ (.inRegion ops₀ (i₀::rest₀)::k₀)) cs)) (G ((base L.wait).at {tmps:=#[pT K.Wg 0]++Array.replicate ((waitFn L).ntmps-1) C0,defers:=[]} [.code (body_wait L)]) (b₀.at a₀ (.inRegion ops₀ (i₀::rest₀)::k₀)::cs)) M w:=by
 lib_facts
 rw[e]at c;have d:∀{w v},WgLive L.tWg K.Wg w->Rel (R0 K Fz) M w v->WgLive L.tWg K.Wg v:=λh r=>by rw[<-e]at h⊢;exact r.more.live h
 refine ae6 (n:=40) ?_;simp only[body_wait,waitFn,ZR]
 walk_nrm
 u_c ZH d c
 u_cond true d c
 u_reg d c
 refine abg (λw₁ h₁=>?_);replace c:=d c h₁;clear h₁;refine⟨rfl,_,aea .disable sM rfl rfl (by k_ne) rfl H.f_disable (x_disable_n L) (x_disable_b L) (x_disable_x L) (x_disable_f L),ae6 (n:=10) ?_⟩
 walk_nrm
 u_c Zw d c
 u_c acj d c
 u_c stepG_loop d c
 exact abg (λw₂ h₂=>⟨_,rfl,sM,sM,trivial,d c h₂⟩)
end
end
section
open Go.Conc Go.ConcN Go.RowKit Go.Conc.Lib Go.ConcR.Gen Go.ConcN.Gen
open Go.ConcR (KK wgBlock WgAt stA smA rd wr mk Payload DC0 ofEvent_cell)
variable{P:E2}{sz:Nat}
noncomputable def mh:Code:=f39.body.getD .skip
def eK:Code:=match mh with|.seq _ (.seq _ (.seq _ (.seq (.seq _ (.block _ (.loop c))) _)))=>c|_=>.skip
def n6:Code:=match mh with|.seq _ (.seq _ (.seq _ (.seq _ c)))=>c|_=>.skip
def b39:K0:=base 39
def eA:b39.kind≠.early:=dC
structure Bt where
 eB:Nat
 oB:Nat
 ls:Option Es
 lsc:Nat
 capn:Nat
 base:Nat->Option Es
 cap:Nat->Nat
 rs:Nat->List Rec
structure Bt.Ok(s:Bt)(K:bW)(B:Nat):Prop where
 len:∀j,j<K.n->((s.rs j):Nat)<=1048576
 recs:∀j,j<K.n->∀r,r∈s.rs j->r.Ok
 fl:∀j,j<K.n->∀r,r∈s.rs j->r.res.2.1<256/\r.res.2.1|||B=B
structure BtG(K:bW)(s:Bt)(Fz:Nat->Prop)(w:AK):Prop where
 he:w (aD s.eB 0)=pT K.E 0
 ho:w (aD s.oB 0)=qL K.C 0 K.n s.capn
 fe:Fz s.eB
 fo:Fz s.oB
 f0:Fz 0
 ls:∀j,j<K.n->∃a,s.ls=some a/\Fz a.block/\a.spot=none/\w (aD a.block (a.off+j))=some (.slice (s.base j) (s.rs j) (s.cap j))
 base:∀j a,j<K.n->s.base j=some a->Fz a.block/\a.spot=none
 recs:∀j,j<K.n->∀k r,(s.rs j)[k]?=some r->∃a,s.base j=some a/\∀c u,(recC r)[c]?=some u->w (aD a.block (a.off+k*5+c))=some u
 tab:ga w
 fz:∀x,Fz x->x≠K.C/\x≠K.E/\x≠K.Wg/\x<(w:Nat)
 c:K.C<w
 e:K.E<w
 wg:K.Wg<w
structure BtF(K:bW)(s:Bt)(Fz:Nat->Prop)(w:AK):Prop extends BtG K s Fz w where
 live:WgLive K.ty K.Wg w
section
variable{K:bW}{s:Bt}{Fz Fz' M:Nat->Prop}{w v:AK}{es:Array Nc}
def BtG.of(h:BtG K s Fz w)(e:∀x,Fz x->v.heap[x]?=w.heap[x]?)(p:(w:Nat)<=v):BtG K s Fz v:=by
 have:=h.c;have:=h.e;have:=h.wg;refine⟨(ZQ (e _ h.fe) 0).trans h.he,(ZQ (e _ h.fo) 0).trans h.ho,h.fe,h.fo,h.f0,λj b=>?_,h.base,λj b k r g=>?_,?_,λx i=>?_,oM,oM,oM⟩
 .obtain⟨a,d,f,l,m⟩:=h.ls j b;exact⟨a,d,f,l,(ZQ (e _ f) _).trans m⟩
 .obtain⟨a,d,f⟩:=h.recs j b k r g;exact⟨a,d,λc u n=>(ZQ (e _ (h.base j a b d).1) _).trans (f c u n)⟩
 .obtain⟨fz,o⟩:=h.tab;exact⟨fz,(e 0 h.f0).trans o⟩
 have:=h.fz x i;exact⟨this.1,this.2.1,this.2.2.1,oM⟩
def BtF.of(h:BtF K s Fz w)(e:∀x,Fz x->v.heap[x]?=w.heap[x]?)(a:(w:Nat)<=v)(b:WgLive K.ty K.Wg v):BtF K s Fz v:=⟨h.toBtG.of e a,b⟩
def BtG.rely(h:BtG K s Fz w)(r:Rel (R0 K Fz) M w v):BtG K s Fz v:=h.of r.more.fz r.size
def BtF.rely(h:BtF K s Fz w)(r:Rel (R0 K Fz) M w v):BtF K s Fz v:=⟨h.toBtG.rely r,r.more.live h.live⟩
def BtG.more(h:BtG K s Fz w)(c:∀x,M x->x≠K.C/\x≠K.E/\x≠K.Wg/\x<(w:Nat)):BtG K s (λx=>Fz x\/M x) w:=by
 refine{h with fe:=.inl h.fe,fo:=.inl h.fo,f0:=.inl h.f0,ls:=λj b=>?_,base:=λj a b e=>⟨.inl (h.base j a b e).1,(h.base j a b e).2⟩,fz:=λx d=>d.elim (h.fz x) (c x)};obtain⟨a,f,g,i,k⟩:=h.ls j b;exact⟨a,f,.inl g,i,k⟩
def Qi(a:Es)(h:Fz a.block)(c:a.block<sz)(d:Bool):EvS K Fz M sz ⟨.cell a,false,d⟩:=by
 refine⟨λx b=>?_,sM,sM,sM,c⟩;simp only[ack,MemAct.touch?,Zt]at b;subst b;exact .inr (.inl ⟨⟨_,h,j4 a⟩,rfl⟩)
def Eu(a:Es)(h:M a.block)(c:a.block<sz)(wr d:Bool):EvS K Fz M sz ⟨.cell a,wr,d⟩:=by
 refine⟨λx b=>?_,sM,sM,sM,c⟩;simp only[ack,MemAct.touch?,Zt]at b;subst b;exact .inl ⟨_,h,j4 a⟩
def D0.idle(v:AK)(a:∀e∈es,EvS K Fz M v e):D0 K Fz M v v es:=
 ⟨rfl,rfl,rfl,Zo _,λ_ _ _=>rfl,by rw[al rfl];exact a⟩
def D0.alloc(v:AK)(o:Obj):D0 K Fz M v (v.alloc o) #[]:=
 ⟨rfl,rfl,rfl,sM,λx a _=>dm v o x a,sM⟩
def D0.own{b:Nat}(d:M b)(a:Go.Conc.Aside b v w)(c:∀e∈es,EvS K Fz M v e):D0 K Fz M v w es:=
 ⟨a.tape,a.os,a.output,aaE a.size.symm,λx _ f=>a.block x λe=>f (e▸d),by rw[al a.size,a.size];exact c⟩
def tL{main:Bool}{R:AK->AK->Prop}{D:(Nat->Prop)->AK->AK->Array Nc->Prop}{Stop:Ar->(Nat->Prop)->AK->Prop}{b:K0}{a:Act}{k:List Item}{cs:List K0}{ops:Array Oper}{i:Nat}{e:List Nat}
 (p:Trans R)(q:∀v,Rel R M w v->D M v v #[]){o:Oper}{f:FuncId}{fn':Func}{c:Code}{args:Array Operand}{ats:Array E1}
 (r:ops[i]?=o)(t:Region.wanted o (yielded ops a.tmps))(u:b.kind≠.early)(g:o.op=.call {callee:=.value (.func f),args,argTypes:=ats})(l:P.funcs[f]?=fn')(d:(fn'.name== "runtime.NumGoroutine")=false)(n:fn'.body=c){vals:Array Aq}(m:args.map a.eval=vals)
 (h:an P main R D Stop (G ((Go.Conc.base f).at {tmps:=vals++Array.replicate (fn'.ntmps-vals.size) C0,defers:=[]} [.code c]) (b.at a (.inRegion ops (i::e)::k)::cs)) M w):an P main R D Stop (G (b.at a (.inRegion ops (i::e)::k)) cs) M w:=by
 have j:fn'.body.isNone=false:=by rw[n];rfl
 have x:∀v,listed P b.fn a o v=#[]:=λv=>by unfold listed;rw[events_call_body g l d j];exact seen_none P _
 refine .ctl p rfl q (λv=>by rw[stepG_enter r t u (run_call_body g l d j),x]) ?_;rw[aeo _ l n,m];exact h
def cz.pre{AnchW:Ar->(Nat->Prop)->AK->Prop}{r:Nat}{g g':Ar}(a:∀Stop,an P true (R0 K Fz) (D0 K Fz) Stop g' (λ_=>False) v->an P true (R0 K Fz) (D0 K Fz) Stop g (λ_=>False) w)(h:cz P K AnchW r Fz g' v):cz P K AnchW r Fz g w:=by
 cases r with
 |zero=>exact a _ h
 |succ r=>exact a _ h
end
def ts(K:bW)(s:Bt)(ve:Aq)(j:Nat)(m o p a b c d e f g h i k l:Aq):Array Aq:=
 #[ve,.slice s.ls K.n s.lsc,pT s.eB 0,C0,.slice none 0 0,pT s.oB 0,pT K.Wg 0,m,o,p,a,b,.slice s.ls K.n s.lsc,iI K.n,iI j,c,d,e,f,g,h,i,k,l]
structure BtI(K:bW)(s:Bt)(Fz M:Nat->Prop)(j iB lB:Nat)(w:AK):Prop where
 f:BtG K s Fz w
 mM:∀x,M x->x≠K.C/\x≠K.E/\x≠K.Wg/\x<(w:Nat)
 ib:w.heap[iB]?=some (.cells #[iI j] 3 (0,0))
 lb:w.heap[lB]?=some (.cells #[.slice (s.base j) (s.rs j) (s.cap j)] 71 (0,0))
 mi:M iB
 ml:M lB
section
variable{K:bW}{s:Bt}{Fz M:Nat->Prop}{w v:AK}{j iB lB:Nat}
def BtI.rely(h:BtI K s Fz M j iB lB w)(r:Rel (R0 K Fz) M w v):BtI K s Fz M j iB lB v:=
 ⟨h.f.rely r,λx b=>by have a:=h.mM x b;have:=r.size;exact⟨a.1,a.2.1,a.2.2.1,oM⟩,(r.mine _ h.mi).trans h.ib,(r.mine _ h.ml).trans h.lb,h.mi,h.ml⟩
def BtI.aside(h:BtI K s Fz M j iB lB w)(r:Go.Conc.Aside K.Wg w v):BtI K s Fz M j iB lB v:=
 ⟨h.f.of (λx a=>r.block x (h.f.fz x a).2.2.1) (aaE r.size.symm),λx a=>by have b:=h.mM x a;have:=r.size;exact⟨b.1,b.2.1,b.2.2.1,oM⟩,(r.block _ (h.mM _ h.mi).2.2.1).trans h.ib,(r.block _ (h.mM _ h.ml).2.2.1).trans h.lb,h.mi,h.ml⟩
def lay(s:Bt)(j iB lB:Nat):Lay:={i:=j,lB,eB:=s.eB,oB:=s.oB,iB,base:=s.base j,cap:=s.cap j,capn:=s.capn,rs:=s.rs j}
def BtI.born(hK:K.Laws)(l:K.ty=link.tWg){B:Nat}(r:K.Fl=FlB K.E B)(m:K.Fok=λw=>∃f,bG K.E w f)(t:K.Out=Ho K.C K.E s.rs)(o:s.Ok K B)(k:j<K.n)(h:BtI K s Fz M j iB lB w)(u:WgLive K.ty K.Wg w)(z:vh K j w):
 an prog false (RK K j (λx=>Fz x\/M x)) (DK K j (λx=>Fz x\/M x)) (SR0 prog K j) (born prog (call53 K.Wg (lay s j iB lB))) (λ_=>False) w:=by
 have b:=h.f;obtain⟨p,i,q⟩:=z;rw[m]at i;obtain⟨f,i⟩:=i;have A:(lay s j iB lB).Ok K (λx=>Fz x\/M x):=⟨k,.inr h.ml,.inl b.fe,.inl b.fo,.inr h.mi,λa e=>⟨.inl (b.base j a k e).1,(b.base j a k e).2⟩,o.len j k,o.recs j k,.inl b.f0⟩;refine Lq (y:=lay s j iB lB) hK l r t A rfl (o.fl j k) ⟨⟨?_,b.he,b.ho,?_,b.recs j k,u,p,b.tab⟩,⟨id,id,id,λx d=>d.elim,b.c,b.e,b.wg,λx d=>⟨id,?_⟩,λx d=>?_⟩,⟨_,q j (Zo _) k,⟨rfl,.inl ⟨rfl,rfl⟩⟩,λg D=>by cases D⟩,f,i,adI f⟩
 .simp[World.cell?,lay,h.lb]
 .simp[World.cell?,lay,h.ib]
 .exact d.elim (λd=>(b.fz x d).2.2.2) λd=>(h.mM x d).2.2.2
 exact d.elim (λd=>⟨(b.fz x d).1,(b.fz x d).2.1⟩) λd=>⟨(h.mM x d).1,(h.mM x d).2.1⟩
end
end
section
open Go.Conc Go.ConcN Go.RowKit Go.Conc.Lib Go.ConcR.Gen Go.ConcN.Gen
open Go.ConcR (KK wgBlock WgAt stA smA rd wr mk Payload DC0 ofEvent_cell)
variable{AnchW:Ar->(Nat->Prop)->AK->Prop}{cs:List K0}{ve:Aq}
section
variable{K:bW}{s:Bt}{Fz M:Nat->Prop}{w v:AK}
def cz.preS{P:E2}{r:Nat}{g:Ar}{S:Ar->AK->Prop}(a:∀Stop,(∀g' v,S g' v->an P true (R0 K Fz) (D0 K Fz) Stop g' (λ_=>False) v)->an P true (R0 K Fz) (D0 K Fz) Stop g (λ_=>False) w)(h:∀g' v,S g' v->cz P K AnchW r Fz g' v):cz P K AnchW r Fz g w:=by
 cases r with
 |zero=>exact a _ h
 |succ r=>exact a _ h
def Wn{Stop:Ar->(Nat->Prop)->AK->Prop}{todo:List Item}{j:Nat}{r t u a b d e f g i k l m n:Aq}{ops:Array Oper}(h:BtF K s Fz w)(y:j<1048576)
 (z:∀(v:AK)(r t u a b d e f g i k l m n:Aq),BtF K s Fz v->an prog true (R0 K Fz) (D0 K Fz) Stop (G (b39.at ⟨ts K s ve (j+1) r t u a b d e f g i k l m n,[]⟩ (.code eK::.inLoop eK::todo)) cs) (λ_=>False) v):
 an prog true (R0 K Fz) (D0 K Fz) Stop (G (b39.at ⟨ts K s ve j r t u a b d e f g i k l m n,[]⟩ (.inRegion ops []::.inBlock 1::.code (match eK with|.seq _ (.seq _ (.seq _ c))=>c|_=>.skip)::.inLoop eK::todo)) cs) (λ_=>False) w:=by
 have o:=aeW K Fz;have p:∀(M:Nat->Prop)(v:AK),D0 K Fz M v v #[]:=λM v=>ae5 v;refine .ctl o rfl (λv _=>p _ v) (λv=>Zw) ?_;refine .ctl o rfl (λv _=>p _ v) (λv=>adG) ?_;generalize A:Item.inLoop eK=E;simp only[eK,mh,f39,ZR,ts];refine ck o (λv _=>p _ v) rfl eA ?_;simp only[aah,Z6,aaA,Nat.reduceAdd,Z8,List.range,List.range.loop];have B:=vi y
 iterate 2
  refine aB rfl rfl λv x C q=>?_;replace h:=h.rely x;clear x;go_simp;refine q _ _ ⟨by rw[aaw (by simp[go_sem, *])];exact ae5 _,?_⟩;clear q C;rw[al rfl]
 refine bL o (λv _=>p _ v) ?_;subst A;refine .ctl o rfl (λv _=>p _ v) (λv=>adW) ?_;have D:(j:Int)+1=((j+1:Nat):Int):=oM;rw[D];exact z _ _ _ _ _ _ _ _ _ _ _ _ _ _ _ h
def Ii(hK:K.Laws)(hty:K.ty=link.tWg){B:Nat}(hB:K.Fl=FlB K.E B)(hOk:K.Fok=λw=>∃f,bG K.E w f)(hO:K.Out=Ho K.C K.E s.rs)(hs:s.Ok K B)(hn:K.n<=1048576){todo:List Item}
 (hX:∀(Fz:Nat->Prop)(w:AK)(W X Y m o O p q u y z A D F:Aq),BtF K s Fz w->cz prog K AnchW 0 Fz (G (b39.at ⟨ts K s ve K.n W X Y m o O p q u y z A D F,[]⟩ todo) cs) w):
 ∀(r:Nat),r<=K.n->∀(Fz:Nat->Prop)(w:AK)(W X Y m o O p q u y z A D F:Aq),BtF K s Fz w->
  cz prog K AnchW r Fz (G (b39.at ⟨ts K s ve (K.n-r) W X Y m o O p q u y z A D F,[]⟩ (.code eK::.inLoop eK::.inBlock 0::todo)) cs) w:=by
 intro r;induction r with
 |zero=>
  intro _ Fz w W X Y m o O p q u y z A D F h;refine cz.pre (v:=w) (g':=G (b39.at ⟨ts K s ve K.n W X Y m o (.bool false) p q u y z A D F,[]⟩ todo) cs) (λStop hg=>?_) (hX _ _ _ _ _ _ _ _ _ _ _ _ _ _ _ _ h);have H:=aeW K Fz;have N:∀(M:Nat->Prop)(v:AK),D0 K Fz M v v #[]:=λM v=>ae5 v;rw[aeC];generalize hL:Item.inLoop eK=L0;simp only[eK,mh,f39,ZR,ts]at hg⊢;refine .ctl H rfl (λv _=>N _ v) (λv=>ZH) ?_;refine ck H (λv _=>N _ v) rfl eA ?_;simp only[aah,Z6,aaA,Nat.reduceAdd,Z8,List.range,List.range.loop];refine aB rfl rfl λv i V a=>?_;replace hg:=hg.rely H i;clear i;go_simp;refine a _ _ ⟨by rw[aaw (by simp[go_sem, *])];exact ae5 _,?_⟩;clear a V;rw[al rfl];refine bL H (λv _=>N _ v) ?_;refine .ctl H rfl (λv _=>N _ v) (λv=>ZH) ?_;refine .ctl H rfl (λv _=>N _ v) (λv=>acN (t:=false) (by simp[Act.eval])) ?_;simp only[abI,acd];subst hL;refine .ctl H rfl (λv _=>N _ v) (λv=>stepG_exit (k':=todo) rfl) ?_;exact hg
 |succ r ih=>
  intro hr Fz w W X Y m o O p q u y z A D F h;have hj:K.n-(r+1)<K.n:=oM;have ej:K.n-r=(K.n-(r+1))+1:=oM;show an prog true (R0 K Fz) (D0 K Fz) (Hm prog K Fz (K.n-(r+1)) (cz prog K AnchW r)) _ (λ_=>False) w;rw[ej]at ih;generalize K.n-(r+1)=j at hj ih⊢;have H:=aeW K Fz;have N:∀(M:Nat->Prop)(v:AK),D0 K Fz M v v #[]:=λM v=>ae5 v;have hjm:j<1048576:=oM;generalize hL:Item.inLoop eK=L0;simp only[eK,mh,f39,ZR,ts];refine .ctl H rfl (λv _=>N _ v) (λv=>ZH) ?_;refine ck H (λv _=>N _ v) rfl eA ?_;simp only[aah,Z6,aaA,Nat.reduceAdd,Z8,List.range,List.range.loop]
  iterate 1
   refine aB rfl rfl λv i V a=>?_;replace h:=h.rely i;clear i;go_simp;refine a _ _ ⟨by rw[aaw (by simp[go_sem, *])];exact ae5 _,?_⟩;clear a V;rw[al rfl]
  refine bL H (λv _=>N _ v) ?_;refine .ctl H rfl (λv _=>N _ v) (λv=>ZH) ?_;refine .ctl H rfl (λv _=>N _ v) (λv=>acN (t:=true) (by simp[Act.eval,hj])) ?_;simp only[aba];refine .ctl H rfl (λv _=>N _ v) (λv=>abn) ?_;refine .ctl H rfl (λv _=>N _ v) (λv=>ZH) ?_;refine .ctl H rfl (λv _=>N _ v) (λv=>acj) ?_;refine .ctl H rfl (λv _=>N _ v) (λv=>ZH) ?_;obtain⟨⟨ab,ao,asp⟩,hls,hab,hasp,_⟩:=h.ls j hj;simp only at hab hasp;subst hasp;have ead:(⟨ab,ao,none⟩:Es).add j=⟨ab,ao+j,none⟩:=by simp[Addr.add]
  have hj0:(0:Int)<=(j:Int):=oM;have hj1:(j:Int)<(K.n:Int):=oM;refine ck H (λv _=>N _ v) rfl eA ?_;simp only[aah,Z6,aaA,Nat.reduceAdd,Z8,List.range,List.range.loop]
  iterate 2
   refine aB rfl rfl λv i V a=>?_;replace h:=h.rely i;clear i;go_simp;refine a _ _ ⟨by rw[aaw (by simp[go_sem, *])];exact ae5 _,?_⟩;clear a V;rw[al rfl]
  refine aB rfl rfl λv i V a=>?_;replace h:=h.rely i;clear i;obtain⟨a',ha',_,_,hc⟩:=h.ls j hj;obtain rfl:(⟨ab,ao,none⟩:Es)=a':=by rw[hls]at ha';exact ZO ha'
  simp only at hc;go_simp;refine a _ _ ⟨D0.idle v λe he=>?_,?_⟩
  .have hm:=abf he;simp[go_sem, *]at hm;subst hm;exact Qi _ hab (h.fz _ hab).2.2.2 _
  clear a V hc;rw[al rfl];refine aB rfl rfl λv i V a=>?_;replace h:=h.rely i;clear i;go_simp;refine a _ _ ⟨by rw[aaw (by simp[go_sem, *])];exact D0.alloc v _,?_⟩;clear a V;have g:=acx v (.cells #[.int .i64 0] 3);have J:∀x,bP (λ_=>False) v (v.alloc (.cells #[.int .i64 0] 3)) x->x≠K.C/\x≠K.E/\x≠K.Wg/\x<((v.alloc (.cells #[.int .i64 0] 3)):Nat)/\¬Fz x:=by
   rintro x (P|⟨U,h2⟩)
   .cases P
   have:=h.c;have:=h.e;have:=h.wg;exact⟨oM,oM,oM,h2,λP=>by have:=(h.fz x P).2.2.2;omega⟩
  have k:bP (λ_=>False) v (v.alloc (.cells #[.int .i64 0] 3)) v:=.inr ⟨Zo _,sM⟩;replace h:=h.of (v:=v.alloc (.cells #[.int .i64 0] 3)) (λx P=>dm v _ x (h.fz x P).2.2.2) sM (dj h.live (dm v _ _ h.wg));generalize bP _ v _=M1 at J k⊢;generalize v.alloc _=w1 at h g J⊢;generalize v.heap.size=Z at g k⊢;refine aB rfl rfl λv i V a=>?_;replace h:=h.rely i;replace g:=(i.mine _ k).trans g;replace J:∀x,M1 x->x≠K.C/\x≠K.E/\x≠K.Wg/\x<(v:Nat)/\¬Fz x:=λx P=>by have U:=J x P;have:=i.size;exact⟨U.1,U.2.1,U.2.2.1,oM,U.2.2.2.2⟩
  clear i;go_simp;refine a _ _ ⟨by rw[aaw (by simp[go_sem, *])];exact D0.alloc v _,?_⟩;clear a V;have l:=acx v (.cells #[.slice none 0 0] 71);replace g:=(dm v (.cells #[.slice none 0 0] 71) _ (J _ k).2.2.2.1).trans g;have aa:v≠Z:=by have:=(J _ k).2.2.2.1;omega
  have hM2:∀x,bP M1 v (v.alloc (.cells #[.slice none 0 0] 71)) x->x≠K.C/\x≠K.E/\x≠K.Wg/\x<((v.alloc (.cells #[.slice none 0 0] 71)):Nat)/\¬Fz x:=by
   rintro x (P|⟨U,h2⟩)
   .have:=J x P;exact⟨this.1,this.2.1,this.2.2.1,by simp;omega,this.2.2.2.2⟩
   have:=h.c;have:=h.e;have:=h.wg;exact⟨oM,oM,oM,h2,λP=>by have:=(h.fz x P).2.2.2;omega⟩
  replace k:bP M1 v (v.alloc (.cells #[.slice none 0 0] 71)) Z:=.inl k;have Q:bP M1 v (v.alloc (.cells #[.slice none 0 0] 71)) v:=.inr ⟨Zo _,sM⟩;replace h:=h.of (v:=v.alloc (.cells #[.slice none 0 0] 71)) (λx P=>dm v _ x (h.fz x P).2.2.2) sM (dj h.live (dm v _ _ h.wg));clear J;have J:=hM2;clear hM2;generalize bP _ v _=M2 at J k Q⊢;generalize v.alloc _=w2 at h g l J⊢;generalize v.heap.size=lB at l Q aa⊢;refine aB rfl rfl λv i V a=>?_;replace h:=h.rely i;replace g:=(i.mine _ k).trans g;replace l:=(i.mine _ Q).trans l;replace J:∀x,M2 x->x≠K.C/\x≠K.E/\x≠K.Wg/\x<(v:Nat)/\¬Fz x:=λx P=>by have U:=J x P;have:=i.size;exact⟨U.1,U.2.1,U.2.2.1,oM,U.2.2.2.2⟩
  clear i;have c0:v ⟨Z,0,none⟩=some (.int .i64 0):=by simp[World.cell?,g]
  have z0:v.frozen? ⟨Z,0,none⟩=false:=by simp[World.frozen?,g]
  go_simp;have T:=asd (v:=v) (b:=Z) 0 (.int .i64 j);refine a _ _ ⟨D0.own k T λe he=>?_,?_⟩
  .have hm:=abf he;simp[go_sem,storedEv, *]at hm;subst hm;exact Eu _ k (J _ k).2.2.2.1 _ _
  clear a V c0 z0;rw[al T.size];replace h:=h.of (v:=v.setCell ⟨Z,0,none⟩ (.int .i64 j)) (λx P=>T.block x λe=>(J _ k).2.2.2.2 (e▸P)) (aaE T.size.symm) (dj h.live (T.block _ (abj (J _ k).2.2.1)));replace g:=gh g 0 (.int .i64 j);replace l:=(T.block _ aa).trans l;have R:=T.size;generalize World.setCell _ _ _=w3 at h g l R⊢;simp only[ad4,List.set_cons_zero]at g;rw[<-R]at J;clear T R;refine aB rfl rfl λv i V a=>?_;replace h:=h.rely i;replace g:=(i.mine _ k).trans g;replace l:=(i.mine _ Q).trans l;replace J:∀x,M2 x->x≠K.C/\x≠K.E/\x≠K.Wg/\x<(v:Nat)/\¬Fz x:=λx P=>by have U:=J x P;have:=i.size;exact⟨U.1,U.2.1,U.2.2.1,oM,U.2.2.2.2⟩
  clear i;have c0:v ⟨lB,0,none⟩=some (.slice none 0 0):=by simp[World.cell?,l]
  have z0:v.frozen? ⟨lB,0,none⟩=false:=by simp[World.frozen?,l]
  go_simp;have T:=asd (v:=v) (b:=lB) 0 (.slice (s.base j) (s.rs j) (s.cap j));refine a _ _ ⟨D0.own Q T λe he=>?_,?_⟩
  .have hm:=abf he;simp[go_sem,storedEv, *]at hm;subst hm;exact Eu _ Q (J _ Q).2.2.2.1 _ _
  clear a V c0 z0;rw[al T.size];replace h:=h.of (v:=v.setCell ⟨lB,0,none⟩ (.slice (s.base j) (s.rs j) (s.cap j))) (λx P=>T.block x λe=>(J _ Q).2.2.2.2 (e▸P)) (aaE T.size.symm) (dj h.live (T.block _ (abj (J _ Q).2.2.1)));replace l:=gh l 0 (.slice (s.base j) (s.rs j) (s.cap j));replace g:=(T.block _ (abj aa)).trans g;have R:=T.size;generalize World.setCell _ _ _=w3 at h g l R⊢;simp only[ad4,List.set_cons_zero]at l;rw[<-R]at J;clear T R;have hl:=h.live;have hI:BtI K s Fz M2 j Z lB w3:=⟨h.toBtG,λx P=>by have:=J x P;exact⟨this.1,this.2.1,this.2.2.1,this.2.2.2.1⟩,g,l,k,Q⟩;clear h g l J k Q aa;refine bL H (λv _=>N _ v) ?_;refine .ctl H rfl (λv _=>N _ v) (λv=>ZH) ?_;refine .ctl H rfl (λv _=>N _ v) (λv=>acU) ?_;simp only[aah,Z6,aaA,Nat.reduceAdd,Z8,List.range,List.range.loop];refine tL (fn':=addFn link) (c:=body_add link) (vals:=#[.pointer (some ⟨K.Wg,0,none⟩),.int .i64 1]) H (λv _=>N _ v) rfl rfl eA rfl vk.f_add (nm_add link) rfl (by simp[Act.eval]) ?_;refine OW (L:=link) (b₀:=b39) (I:=BtI K s Fz M2 j Z lB) vk hty (λw v h r=>h.rely r) (λw v h r=>h.aside r) (λw hI hl=>?_) _ ⟨hI,hl⟩
  walk_nrm
  refine .ctl H rfl (λv _=>N _ v) (λv=>Zw) ?_;refine .ctl H rfl (λv _=>N _ v) (λv=>acU) ?_;simp only[aah,Z6,aaA,Nat.reduceAdd,Z8,List.range,List.range.loop];refine .ctl H rfl (λv _=>N _ v) (λv=>by rw[stepG_value (v:=.func (.func 53) #[] #[.pointer (some ⟨K.Wg,0,none⟩),.pointer (some ⟨lB,0,none⟩),.pointer (some ⟨s.eB,0,none⟩),.pointer (some ⟨s.oB,0,none⟩),.pointer (some ⟨Z,0,none⟩)]) (w':=v) rfl rfl eA (by simp[go_sem]),aaw (by simp[go_sem])]) ?_
  walk_nrm
  refine .stop λv i=>?_;replace hI:=hI.rely i;replace hl:=i.more.live hl;clear i;refine⟨rfl,?_⟩;rw[stepG_spawn (d:=call53 K.Wg (lay s j Z lB)) (w':=v) (f:=.func 53) (c:=#[.pointer (some ⟨K.Wg,0,none⟩),.pointer (some ⟨lB,0,none⟩),.pointer (some ⟨s.eB,0,none⟩),.pointer (some ⟨s.oB,0,none⟩),.pointer (some ⟨Z,0,none⟩)]) rfl rfl eA (by simp[go_sem,call53,lay,Deferred.ofValue]) rfl,aaw (by simp[go_sem,Deferred.ofValue])];refine⟨_,_,rfl,rfl,λhp=>hI.born hK hty hB hOk hO hs hj hl hp,?_⟩;refine cz.preS (S:=λg' v=>∃W X Y m o O p q u y z A D F,g'=G (b39.at ⟨ts K s ve (j+1) W X Y m o O p q u y z A D F,[]⟩ (.code eK::.inLoop eK::.inBlock 0::todo)) cs/\BtF K s (λx=>Fz x\/M2 x) v) (λStop hg=>?_) ?_
  .subst hL;simp only[Act.put];rw[<-hls];exact Wn ⟨hI.f.more hI.mM,hl⟩ hjm λv W X Y m o O p q u y z A D F h=>hg _ _ ⟨W,X,Y,m,o,O,p,q,u,y,z,A,D,F,rfl,h⟩
  rintro g' v⟨W,X,Y,m,o,O,p,q,u,y,z,A,D,F,rfl,h⟩;exact ih oM _ _ W X Y m o O p q u y z A D F h
end
end
end Go.Proofs.YtldmbneckcjonaaDoor
