/- A part of the proof. -/
import Derived.Test.YtldmbneckcjonaaDoorK8
set_option linter.defProp false
set_option linter.unusedVariables false
set_option linter.unusedSimpArgs false
set_option maxRecDepth 100000
set_option maxHeartbeats 8000000
noncomputable section
namespace Go.Proofs.YtldmbneckcjonaaDoor
open Go renaming World->AK,Value->Aq,Goroutine->Ar,Calls->Bf,undef->C0,Addr->Es,TypeId->E1,Program->E2,stepG->KC,Frame->K0,execOp->Lk,bits->Na,Event->Nc
open Go.RowKit renaming Below->Np,wrap64->Nq
open Go.Proofs.Tryd
namespace T
open Go.Conc
variable{a:Es}{b:Nat}{c:Array Aq}{t u:E1}{v' v₁ w wl' wl₁:AK}{x y:Aq}{z:Nat×Nat}
def xo:Aq->Bool
 |.func _ _ _|.iface _ _|.agg _|.tuple _=>false
 |_=>true
def IsC(o:Obj):Prop:=∃c t z,o=.cells c t z
def Odd:Obj->Prop
 |.cells ..|.view ..|.pending ..=>False
 |_=>True
structure Md where
 V:Aq->Prop
 GL:Nat->Prop
 Dd:Nat->Prop
 good:Nat->Bool
 okc:Nat->Code->Prop
def Md.OKo(m:Md):Obj->Prop
 |.loop l=>(∀v,v∈l.tmps->m.V v)/\m.okc l.fn l.assign/\m.okc l.fn l.body/\(∀c,l.pending=some c->m.okc l.fn c)/\m.GL l.defers
 |.deferred ds=>ds=some []\/ds=none
 |.number _ _=>True
 |_=>False
def Md.odd{m:Md}{o:Obj}(h:m.OKo o):Odd o:=by
 cases o<;>first|exact h.elim|trivial
structure Md.Ok(m:Md):Prop where
 sc:∀x,xo x->m.V x
 agg:∀cs,m.V (.agg cs)↔∀c,c∈cs->m.V c
 tup:∀vs,m.V (.tuple vs)↔∀v,v∈vs->m.V v
 ifc:∀t v,m.V (.iface t v)↔m.V v
 fn:∀f a b,m.good f->(∀v,v∈a->m.V v)->(∀v,v∈b->m.V v)->m.V (.func (.func f) a b)
 yl:∀l,m.GL l->m.V (.func (.yield l) #[] #[])
def Xf:Obj->Prop
 |.cells ..|.view ..|.number ..=>False
 |_=>True
def Void(o:Obj):Prop:=o=.deferred none\/∃t,o=.view ⟨0,0,some 0⟩ t
inductive OR:Obj->Obj->Prop
 |same {o:Obj}:Odd o->OR o o
 |cells {c c':Array Aq} {t:E1} {z:Nat×Nat}:(∀(i:Nat)(x:Aq),c'[i]?=x->c[i]?=x)->c'.size<=c.size->OR (.cells c t z) (.cells c' t z)
 |view {a:Es} {t:E1}:OR (.view a t) (.view ⟨0,0,some 0⟩ t)
 |lost {o:Obj}:Xf o->OR o (.deferred none)
structure Tr(m:Md)(wl v:AK):Prop where
 size:(v:Nat)=wl
 blk:∀(b:Nat)(o:Obj),wl.heap[b]?=o->∃o',v.heap[b]?=some o'/\OR o' o/\(m.GL b->¬IsC o->o'=o\/Void o)
 val:∀(b:Nat)(c:Array Aq)(t:E1)(z:Nat×Nat),wl.heap[b]?=some (.cells c t z)->∀x,x∈c->m.V x
 obj:∀(b:Nat)(o:Obj),m.GL b->wl.heap[b]?=o->¬IsC o->m.OKo o\/Void o
 dead:∀b,m.Dd b->b<(wl:Nat)/\∀c t z,wl.heap[b]?=some (.cells c t z)->c=#[]
 os:v.os=wl.os
 out:v.output=wl.output
def Lg(m:Mark):Prop:=(∃f,m=.extern f)\/m=.noRoom
def EvT(Dd:Nat->Prop)(n:Nat)(e:Nc):Prop:=(∃m,e.loc=.mark m/\Lg m)\/(∃a,e.loc=.cell a/\¬Dd a.block/\a.block<n)\/(∃r,e.loc=.obj r/\r<n)\/e.loc=.output
def EvT.mono{Dd:Nat->Prop}{n g:Nat}{e:Nc}(h:EvT Dd n e)(i:n<=g):EvT Dd g e:=by
 rcases h with h|⟨a,d,j,f⟩|⟨a,d,f⟩|h
 .exact .inl h
 .exact .inr (.inl ⟨a,d,j,ZB f i⟩)
 .exact .inr (.inr (.inl ⟨a,d,ZB f i⟩))
 exact .inr (.inr (.inr h))
structure qI(m:Md)(wl v wl' v':AK)(b:Nat):Prop where
 cells:∀c' t z,wl.heap[b]?=some (.cells c' t z)->∃c c1 c1',v.heap[b]?=some (.cells c t z)/\v'.heap[b]?=some (.cells c1 t z)/\wl'.heap[b]?=some (.cells c1' t z)/\c1'.size=c'.size/\c1.size=c.size/\∀i,c'.size<=i->c1[i]?=c[i]?
 odd:¬m.GL b->∀o,wl.heap[b]?=some o->¬IsC o->v'.heap[b]?=v.heap[b]?/\wl'.heap[b]?=wl.heap[b]?
structure Kept(m:Md)(wl v wl' v':AK):Prop where
 stay:∀b,qI m wl v wl' v' b
 thin:Tr m wl' v'
 tape:v'.tape=v.tape
 ltape:wl'.tape=wl.tape
 drawn:v.drawn<=v'.drawn
 ldrawn:wl'.drawn=wl.drawn+(v'.drawn-v.drawn)
 grow:(wl:Nat)<=wl'
 os:v'.os=v.os
 out:v'.output=v.output
def OT(m:Md):Obj->Prop
 |.cells c _ _=>∀x,x∈c->m.V x
 |o=>m.OKo o
section
variable{P:E2}{m:Md}{α β:Type}{Q:α->Prop}{wl v:AK}
def jk(h:w a=x):∃c t z,w.heap[a.block]?=some (.cells c t z)/\a.spot=none/\c[a.off]?=x:=by
 unfold World.cell? at h;split at h
 .rename_i c t z d;split at h
  .cases h
  rename_i e;exact⟨c,t,z,d,by simpa using e,h⟩
 cases h
def cell_of(d:w.heap[a.block]?=some (.cells c t z))(e:a.spot=none)(f:c[a.off]?=x):w a=x:=by
 unfold World.cell?;rw[d];simp[e,f]
def Tr.cells(e:Tr m wl v){d:Array Aq}(h:wl.heap[b]?=some (.cells d t z)):∃c,v.heap[b]?=some (.cells c t z)/\(∀(i:Nat)(x:Aq),d[i]?=x->c[i]?=x)/\d.size<=c.size:=by
 obtain⟨l,f,g,_⟩:=e.blk _ _ h;cases g with
 |same h=>exact h.elim
 |cells j k=>exact⟨_,f,j,k⟩
def Tr.lt(d:Tr m wl v){o:Obj}(h:wl.heap[b]?=o):b<v:=by
 rw[d.size];exact(Zq.1 h).1
def Tr.alive(d:Tr m wl v){i:Nat}(h:wl.heap[b]?=some (.cells c t z))(e:c[i]?=x):¬m.Dd b:=by
 intro f;have:=(d.dead b f).2 _ _ _ h;subst this;simp at e
def Tr.cell(e:Tr m wl v)(h:wl a=x):v a=x/\m.V x/\¬m.Dd a.block/\a.block<v/\v.frozen? a=wl.frozen? a:=by
 obtain⟨c,t,z,d,i,f⟩:=jk h;obtain⟨k,g,j,_⟩:=e.cells d;refine⟨cell_of g i (j _ _ f),e.val _ _ _ _ d _ (ZS f),e.alive d f,e.lt d,?_⟩;unfold World.frozen?;rw[d,g]
def seen_none(w:AK)(u:E1)(k:Es)(b:Bool):∃d,w.seen P ⟨0,0,some 0⟩ u k b=.error d:=by
 unfold World.seen;simp only[Option.isSome_some,Bool.or_true,aba];exact⟨_,rfl⟩
def Tr.noview(d:Tr m wl v)(h:wl.heap[b]?=some (.view a u)):a=⟨0,0,some 0⟩:=by
 obtain⟨f,_,e,_⟩:=d.blk _ _ h;cases e with
 |same h=>exact h.elim
 |view=>rfl
def Tr.nopend(d:Tr m wl v)(h:wl.heap[b]?=some (.pending c u)):False:=by
 obtain⟨f,_,e,_⟩:=d.blk _ _ h;cases e with
 |same h=>exact h.elim
def Tr.noCell(e:Tr m wl v)(a:Es)(d:String):ot (wl.noCell a d):=by
 unfold World.noCell;split
 .rename_i h;exact(e.nopend h).elim
 .exact .inr ⟨_,rfl,λb h=>by cases h⟩
 exact .inl ⟨_,rfl⟩
def Tr.far(e:Tr m wl v)(a:Es)(b:Bool):∃f,wl.farLoad P a b=.error f/\ot f:=by
 unfold World.farLoad;split
 .rename_i g u h;obtain rfl:=e.noview h;obtain⟨d,i⟩:=seen_none (P:=P) wl u a b;have:wl.viewLoad P ⟨0,0,some 0⟩ u a b=.error d:=by
   unfold World.viewLoad;rw[i];rfl
  rw[this];exact⟨_,rfl,.inr ⟨_,rfl,λb h=>by cases h⟩⟩
 exact⟨_,rfl,e.noCell a _⟩
def Tr.farS(e:Tr m wl v)(a:Es)(x:Aq)(b:Bool):∃f,wl.farStore P a x b=.error f/\ot f:=by
 unfold World.farStore;split
 .rename_i g u h;obtain rfl:=e.noview h;obtain⟨d,i⟩:=seen_none (P:=P) wl u a b;have:∃d,wl.viewStore P ⟨0,0,some 0⟩ u a x b=.error d:=by
   unfold World.viewStore;rw[i];cases tight P P.depth u<;>exact⟨_,rfl⟩
  obtain⟨d,this⟩:=this;rw[this];exact⟨_,rfl,.inr ⟨_,rfl,λb h=>by cases h⟩⟩
 exact⟨_,rfl,e.noCell a _⟩
def Tr.at(h:Tr m wl v)(d e:Nat):Tr m {wl with drawn:=d} {v with drawn:=e}:=⟨h.size,h.blk,h.val,h.obj,h.dead,h.os,h.out⟩
def qI.refl(e:Tr m wl v)(f:∀o,wl.heap[b]?=some o->wl'.heap[b]?=some o)(g:∀o,v.heap[b]?=some o->v'.heap[b]?=some o):qI m wl v wl' v' b:=by
 refine⟨λi t z h=>?_,λ_ o h _=>?_⟩
 .obtain⟨c,d,j,k⟩:=e.cells h;exact⟨c,c,i,d,g _ d,f _ h,rfl,rfl,λ_ _=>rfl⟩
 obtain⟨l,d,_⟩:=e.blk _ _ h;rw[g _ d,f _ h,d,h];exact⟨rfl,rfl⟩
def qI.trans(h:qI m wl v wl₁ v₁ b)(k:qI m wl₁ v₁ wl' v' b):qI m wl v wl' v' b:=by
 refine⟨λs t z e=>?_,λq o e r=>?_⟩
 .obtain⟨c,J,j,l,f,A,B,C,D⟩:=h.cells s t z e;obtain⟨d,d1,n,g,p,E,F,G,H⟩:=k.cells j t z A;rw[f]at g;cases g;exact⟨c,d1,n,l,p,E,F.trans B,G.trans C,λi I=>(H i oM).trans (D i I)⟩
 obtain⟨l,f⟩:=h.odd q o e r;obtain⟨g,p⟩:=k.odd q o (f.trans e) r;exact⟨g.trans l,p.trans f⟩
def qI.same(h:qI m wl v wl' v' b)(j:Tr m wl v)(f:Tr m wl' v')(B:¬m.GL b)(g:b<v)(k:wl'.heap[b]?=wl.heap[b]?):v'.heap[b]?=v.heap[b]?:=by
 have C:b<wl:=by rw[<-j.size];exact g
 obtain⟨o,e⟩:∃o,wl.heap[b]?=some o:=⟨_,Z5 C⟩;by_cases l:IsC o
 .obtain⟨n,t,z,rfl⟩:=l;obtain⟨c,D,E,p,q,r,I,J,F⟩:=h.cells n t z e;rw[k,e]at r;cases r;obtain⟨d,s,G,K⟩:=f.cells (k.trans e);rw[q]at s;cases s;obtain⟨d,e1,e2,L⟩:=j.cells e;rw[p]at e1;cases e1;rw[p,q];have:D=c:=by
   apply acD;intro i;by_cases H:i<n.size
   .have A:=Z5 H;rw[G _ _ A,e2 _ _ A]
   exact F i oM
  rw[this]
 exact(h.odd B o e l).1
def Kept.same(h:Tr m wl v):Kept m wl v wl v:=⟨λ_=>.refl h (λ_ h=>h) (λ_ h=>h),h,rfl,rfl,Zo _,oM,Zo _,rfl,rfl⟩
def Kept.trans(h:Kept m wl v wl₁ v₁)(k:Kept m wl₁ v₁ wl' v'):Kept m wl v wl' v':=
 ⟨λb=>(h.stay b).trans (k.stay b),k.thin,k.tape.trans h.tape,k.ltape.trans h.ltape,Zz h.drawn k.drawn,by have:=h.ldrawn;have:=k.ldrawn;have:=h.drawn;have:=k.drawn;omega,Zz h.grow k.grow,k.os.trans h.os,k.out.trans h.out⟩
def Tr.set(g:Tr m wl v)(E:wl a=y)(F:m.V x):Tr m (wl.setCell a x) (v.setCell a x):=by
 obtain⟨c,t,z,l,s,A⟩:=jk E;obtain⟨G,H,I,J⟩:=g.cells l;have K:a.off<c.size:=(Zq.1 A).1;have e1:∀b,a.block=b->(wl.setCell a x).heap[b]?=some (.cells (c.setIfInBounds a.off x) t z):=by
  rintro b rfl;rw[bj,ZC rfl,l];simp[s]
 have e2:∀b,a.block=b->(v.setCell a x).heap[b]?=some (.cells (G.setIfInBounds a.off x) t z):=by
  rintro b rfl;rw[bj,ZC rfl,H];simp[s]
 have f1:∀b,¬a.block=b->(wl.setCell a x).heap[b]?=wl.heap[b]?:=λb h=>by rw[bj,Zr h]
 have f2:∀b,¬a.block=b->(v.setCell a x).heap[b]?=v.heap[b]?:=λb h=>by rw[bj,Zr h]
 refine⟨by simp[World.setCell,g.size],λb o f=>?_,λb d B C f=>?_,λb o L f n=>?_,λb p=>?_,g.os,g.out⟩
 .by_cases e:a.block=b
  .rw[e1 b e]at f;cases f;refine⟨_,e2 b e,.cells (λi u k=>?_) (by simpa using J),λ_ n=>absurd ⟨_,_,_,rfl⟩ n⟩;rw[ab8]at k⊢;split at k
   .rename_i q;subst q;rw[ZC rfl,ZC oM];exact k
   rename_i q;rw[Zr q];exact I _ _ k
  rw[f1 b e]at f;rw[f2 b e];exact g.blk b o f
 .by_cases e:a.block=b
  .rw[e1 b e]at f;cases f;intro u k;obtain⟨j,r⟩:=aaF.1 k;rcases gi r with⟨_,rfl⟩|r
   .exact F
   exact g.val _ _ _ _ l _ (ZS r)
  rw[f1 b e]at f;exact g.val b d B C f
 .by_cases e:a.block=b
  .rw[e1 b e]at f;cases f;exact absurd ⟨_,_,_,rfl⟩ n
  rw[f1 b e]at f;exact g.obj b o L f n
 refine⟨by simp only[World.setCell,acr];exact(g.dead b p).1,λd B C D=>?_⟩;by_cases e:a.block=b
 .subst e;exact absurd p (g.alive l A)
 rw[f1 b e]at D;exact(g.dead b p).2 _ _ _ D
def Tr.set_stay(g:Tr m wl v)(l:wl a=y)(b:Nat):qI m wl v (wl.setCell a x) (v.setCell a x) b:=by
 obtain⟨c,t,z,f,j,n⟩:=jk l;obtain⟨p,k,s,A⟩:=g.cells f;have q:a.off<c.size:=(Zq.1 n).1;by_cases e:a.block=b
 .subst e;have e1:(wl.setCell a x).heap[a.block]?=some (.cells (c.setIfInBounds a.off x) t z):=by
   rw[bj,ZC rfl,f];simp[j]
  have e2:(v.setCell a x).heap[a.block]?=some (.cells (p.setIfInBounds a.off x) t z):=by
   rw[bj,ZC rfl,k];simp[j]
  refine⟨λd B C h=>?_,λ_ o h r=>?_⟩
  .rw[f]at h;cases h;refine⟨_,_,_,k,e2,e1,sM,sM,λi D=>?_⟩;rw[ab8,Zr oM]
  rw[f]at h;cases h;exact absurd ⟨_,_,_,rfl⟩ r
 exact .refl g (λo h=>by rw[bj,Zr e];exact h) λo h=>by rw[bj,Zr e];exact h
def Tr.put(h:Tr m wl v){r:Nat}{o o₀:Obj}(E:¬IsC o₀)(s:wl.heap[r]?=o₀)(f:Odd o)(A:m.OKo o):Tr m {wl with heap:=wl.heap.setIfInBounds r o} {v with heap:=v.heap.setIfInBounds r o}:=by
 have l:r<wl:=(Zq.1 s).1;have e1:(wl.heap.setIfInBounds r o)[r]?=o:=Z0 l;have e2:(v.heap.setIfInBounds r o)[r]?=o:=Z0 (by rw[h.size];exact l);have B:¬IsC o:=by rintro⟨c,t,z,rfl⟩;exact f
 refine⟨by simp[h.size],λb j e=>?_,λb d n p e=>?_,λb j C e k=>?_,λb q=>?_,h.os,h.out⟩
 .change(wl.heap.setIfInBounds r o)[b]?=some j at e;show∃D,(v.heap.setIfInBounds r o)[b]?=some D/\_;by_cases g:r=b
  .subst g;rw[e1]at e;cases e;exact⟨_,e2,.same f,λ_ _=>.inl rfl⟩
  rw[ZF g]at e⊢;exact h.blk b j e
 .change(wl.heap.setIfInBounds r o)[b]?=some _ at e;by_cases g:r=b
  .subst g;rw[e1]at e;cases e;exact absurd ⟨_,_,_,rfl⟩ B
  rw[ZF g]at e;exact h.val b d n p e
 .change(wl.heap.setIfInBounds r o)[b]?=some _ at e;by_cases g:r=b
  .subst g;rw[e1]at e;cases e;exact .inl A
  rw[ZF g]at e;exact h.obj b j C e k
 refine⟨by simp only[abk];exact(h.dead b q).1,λd n p i=>?_⟩;change(wl.heap.setIfInBounds r o)[b]?=some _ at i;by_cases g:r=b
 .subst g;rw[e1]at i;cases i;exact f.elim
 rw[ZF g]at i;exact(h.dead b q).2 _ _ _ i
def Tr.push(f:Tr m wl v){o:Obj}(j:OT m o):Tr m {wl with heap:=wl.heap.push o} {v with heap:=v.heap.push o}:=by
 have k:OR o o:=by
  cases o<;>first|exact .cells (λ_ _ h=>h) (Zo _)|exact .same (Md.odd (m:=m) j)
 refine⟨by simp[f.size],λb i e=>?_,λb d r s e=>?_,λb i A e g=>?_,λb l=>?_,f.os,f.out⟩
 .show∃n,(v.heap.push o)[b]?=some n/\_;rcases gK e with⟨p,rfl⟩|⟨p,e⟩
  .exact⟨_,by rw[aa6,f.size,ZC p],k,λ_ _=>.inl rfl⟩
  obtain⟨n,B,C⟩:=f.blk b i e;exact⟨n,l5 B,C⟩
 .rcases gK e with⟨_,e⟩|⟨_,e⟩
  .subst e;exact j
  exact f.val b d r s e
 .rcases gK e with⟨_,rfl⟩|⟨_,e⟩
  .cases i<;>first|exact absurd ⟨_,_,_,rfl⟩ g|exact .inl j
  exact f.obj b i A e g
 refine⟨by simp only[abe];exact aed (f.dead b l).1,λd r s q=>?_⟩;rcases gK q with⟨p,_⟩|⟨_,q⟩
 .have:=(f.dead b l).1;omega
 exact(f.dead b l).2 _ _ _ q
def Qy(P:E2)(m:Md)(Q:α->Prop)(s:Sem α):Prop:=∀(wl v:AK),Tr m wl v->∀d es:Array Nc,(∃h,(s.runT P wl d).1=.halt h wl/\ot h)\/
 ∃a f,(s.runT P wl d).1=.ok a wl/\s.runT P v es=(.ok a v,f)/\Q a/\∀e,e∈f->e∈es\/EvT m.Dd v e
inductive Tl(P:E2)(m:Md){α:Type}(Q:α->Prop):Sem α->Prop
 |pure {a:α}:Q a->Tl P m Q (.pure a)
 |load {md:Mode} {a:Es} {k:Aq->Sem α}:(∀v,m.V v->Tl P m Q (k v))->Tl P m Q (.load md a k)
 |store {md:Mode} {a:Es} {v:Aq} {k:Sem α}:m.V v->Tl P m Q k->Tl P m Q (.store md a v k)
 |new {o:Obj} {k:Nat->Sem α}:OT m o->(∀r,m.GL r->Tl P m Q (k r))->Tl P m Q (.new o k)
 |query {β:Type} {R:β->Prop} {s:Sem β} {k:β->Sem α}:Qy P m R s->(∀b,R b->Tl P m Q (k b))->Tl P m Q (s.bind k)
 |getObj {r:Nat} {k:Obj->Sem α}:m.GL r->(∀o,m.OKo o->Tl P m Q (k o))->(∀o,Void o->∃h,k o=.halt h/\ot h)->Tl P m Q (.getObj r k)
 |setObj {r:Nat} {o:Obj} {k:Sem α}:m.GL r->m.OKo o->Tl P m Q k->Tl P m Q (.setObj r o k)
 |choose {q:Question} {k:Nat->Sem α}:(∀n,Tl P m Q (k n))->Tl P m Q (.choose q k)
 |program {k:E2->Sem α}:Tl P m Q (k P)->Tl P m Q (.program k)
 |mark {mk:Mark} {k:Sem α}:Lg mk->Tl P m Q k->Tl P m Q (.mark mk k)
 |env {k:SysRet->Sem α}:(∀r,Tl P m Q (k r))->Tl P m Q (.sys .env k)
 |panic {x:Aq}:Tl P m Q (.halt (.panic x))
 |lost {h:Halt}:ot h->Tl P m Q (.halt h)
def bind_assoc'{γ:Type}(s:Sem α)(f:α->Sem β)(g:β->Sem γ):(s.bind f).bind g=s.bind λa=>(f a).bind g:=by
 induction s with
 |pure a=>rfl
 |halt h=>rfl
 |load md a k d=>exact aal (Sem.load md a) (funext d)
 |store md a v k d=>exact aal (Sem.store md a v) d
 |new o k d=>exact aal (Sem.new o) (funext d)
 |shape r k d=>exact aal (Sem.shape r) (funext d)
 |freeze a n k d=>exact aal (Sem.freeze a n) d
 |frozen a k d=>exact aal (Sem.frozen a) (funext d)
 |getObj r k d=>exact aal (Sem.getObj r) (funext d)
 |setObj r o k d=>exact aal (Sem.setObj r o) d
 |choose q k d=>exact aal (Sem.choose q) (funext d)
 |sys c k d=>exact aal (Sem.sys c) (funext d)
 |program k d=>exact aal Sem.program (funext d)
 |mark mk k d=>exact aal (Sem.mark mk) d
def Tl.bind{Q':β->Prop}{s:Sem α}{f:α->Sem β}(h:Tl P m Q s)(k:∀a,Q a->Tl P m Q' (f a)):Tl P m Q' (s>>=f):=by
 show Tl P m Q' (s.bind f);induction h with
 |pure h=>exact k _ h
 |load _ d=>exact .load d
 |store j _ d=>exact .store j d
 |new g _ d=>exact .new g d
 |query l _ d=>rw[bind_assoc'];exact .query l d
 |getObj i _ n d=>
  refine .getObj i d λo g=>?_;obtain⟨h,e,p⟩:=n o g;exact⟨h,aal (λs=>Sem.bind s f) e,p⟩
 |setObj i g _ d=>exact .setObj i g d
 |choose _ d=>exact .choose d
 |program _ d=>exact .program d
 |mark q _ d=>exact .mark q d
 |env _ d=>exact .env d
 |panic=>exact .panic
 |lost h=>exact .lost h
def Tl.mono{R:α->Prop}{s:Sem α}(h:Tl P m Q s)(k:∀a,Q a->R a):Tl P m R s:=by
 induction h with
 |pure h=>exact .pure (k _ h)
 |load _ d=>exact .load d
 |store g _ d=>exact .store g d
 |new e _ d=>exact .new e d
 |query i _ d=>exact .query i d
 |getObj f _ j d=>exact .getObj f d j
 |setObj f e _ d=>exact .setObj f e d
 |choose _ d=>exact .choose d
 |program _ d=>exact .program d
 |mark l _ d=>exact .mark l d
 |env _ d=>exact .env d
 |panic=>exact .panic
 |lost h=>exact .lost h
def Tl.stuck{d:String}:Tl P m Q (Go.stuck d):=.lost (.inl ⟨_,rfl⟩)
def ae0:=@Tl.stuck
def Tl.unsup{u:Unsupported}(h:∀b,u≠.initOrder b):Tl P m Q (Go.unsupported u):=.lost (.inr ⟨_,rfl,h⟩)
def ae1:=@Tl.unsup
def bind_pure'(s:Sem α):s.bind .pure=s:=by
 induction s with
 |pure a=>rfl
 |halt h=>rfl
 |load md a k d=>exact aal (Sem.load md a) (funext d)
 |store md a v k d=>exact aal (Sem.store md a v) d
 |new o k d=>exact aal (Sem.new o) (funext d)
 |shape r k d=>exact aal (Sem.shape r) (funext d)
 |freeze a n k d=>exact aal (Sem.freeze a n) d
 |frozen a k d=>exact aal (Sem.frozen a) (funext d)
 |getObj r k d=>exact aal (Sem.getObj r) (funext d)
 |setObj r o k d=>exact aal (Sem.setObj r o) d
 |choose q k d=>exact aal (Sem.choose q) (funext d)
 |sys c k d=>exact aal (Sem.sys c) (funext d)
 |program k d=>exact aal Sem.program (funext d)
 |mark mk k d=>exact aal (Sem.mark mk) d
def Tl.ask{s:Sem α}(h:Qy P m Q s):Tl P m Q s:=by
 have:=Tl.query (Q:=Q) (k:=Sem.pure) h λb d=>.pure d
 rwa [bind_pure']at this
def ae2:=@Tl.ask
def pI(m:Md)(Q:α->Prop)(wl v:AK)(es:Array Nc)(x:Result α)(y:Result α×Array Nc):Prop:=
 (∃a wl' v' d,x=.ok a wl'/\y=(.ok a v',d)/\Q a/\Kept m wl v wl' v'/\∀e,e∈d->e∈es\/EvT m.Dd v' e)\/
 (∃p wl' v' d,x=.halt (.panic p) wl'/\y=(.halt (.panic p) v',d)/\Kept m wl v wl' v'/\∀e,e∈d->e∈es\/EvT m.Dd v' e)\/
 ∃h wl',x=.halt h wl'/\ot h
def pI.step{es es₁:Array Nc}{x:Result α}{y:Result α×Array Nc}(h:pI m Q wl₁ v₁ es₁ x y)(f:Kept m wl v wl₁ v₁)(i:∀e,e∈es₁->e∈es\/EvT m.Dd v₁ e):pI m Q wl v es x y:=by
 have j:∀{wl' v':AK},Kept m wl₁ v₁ wl' v'->(v₁:Nat)<=v':=λk=>by rw[f.thin.size,k.thin.size];exact k.grow
 rcases h with⟨a,wl',v',d,e1,e2,q,k,g⟩|⟨p,wl',v',d,e1,e2,k,g⟩|h
 .exact .inl ⟨a,wl',v',d,e1,e2,q,f.trans k,λe h=>(g e h).elim (λh=>(i e h).imp id λh=>h.mono (j k)) .inr⟩
 .exact .inr (.inl ⟨p,wl',v',d,e1,e2,f.trans k,λe h=>(g e h).elim (λh=>(i e h).imp id λh=>h.mono (j k)) .inr⟩)
 exact .inr (.inr h)
def Lx(w:AK):∃r,w.sys .env=(r,w)/\∀v:AK,v.os=w.os->v.sys .env=(r,v):=by
 refine⟨(w.sys .env).1,rfl,?_⟩;intro v h;unfold World.sys;rw[h];obtain⟨a,b,c,d⟩:=v;subst h;rfl
def Tl.run{s:Sem α}(h:Tl P m Q s):∀(wl v:AK)(d es:Array Nc),Tr m wl v->(∀b,(wl:Nat)<=b->m.GL b)->
 (∀j q,v.drawn+j<(dt (s.runT P v es).1).drawn->wl.tape (wl.drawn+j) q=v.tape (v.drawn+j) q)->pI m Q wl v es (s.runT P wl d).1 (s.runT P v es):=by
 induction h with
 |pure q=>exact λwl v d es g _ _=>.inl ⟨_,wl,v,es,rfl,rfl,q,.same g,λe i=>.inl i⟩
 |panic=>exact λwl v d es g _ _=>.inr (.inl ⟨_,wl,v,es,rfl,rfl,.same g,λe i=>.inl i⟩)
 |lost R=>exact λwl v d es g _ _=>.inr (.inr ⟨_,wl,rfl,R⟩)
 |load I p=>
  rename_i md a k;intro wl v d es g n l;cases A:wl a with
  |none=>
   obtain⟨R,f1,f2⟩:=g.far (P:=P) a (md==.atomic);exact .inr (.inr ⟨R,wl,by simp only[Sem.runT,A,f1],f2⟩)
  |some x=>
   obtain⟨B,W,X,J,_⟩:=g.cell A;(have e1:(Sem.load md a k).runT P wl d=(k x).runT P wl (d.push ⟨.cell a,false,md==.atomic⟩):=by simp only[Sem.runT,A]);(have e2:(Sem.load md a k).runT P v es=(k x).runT P v (es.push ⟨.cell a,false,md==.atomic⟩):=by simp only[Sem.runT,B]);rw[e1,e2];rw[e2]at l;refine(p x W wl v _ _ g n l).step (.same g) λe i=>?_;rcases aa2.1 i with i|rfl
   .exact .inl i
   exact .inr (.inr (.inl ⟨_,rfl,X,J⟩))
 |store W I p=>
  rename_i md a x k;intro wl v d es g n l;by_cases K:(∃cs,x=.agg cs)\/∃vs,x=.tuple vs
  .rcases K with⟨cs,rfl⟩|⟨cs,rfl⟩<;>exact .inr (.inr ⟨_,wl,rfl,.inl ⟨_,rfl⟩⟩)
  have u:∀(w:AK)(es:Array Nc),(Sem.store md a x k).runT P w es=match w a with
   |some _=>
    if w.frozen? a then(.halt (.unsupported (.unsafePointer "a write to bytes that a string shares")) w,es)
    else k.runT P (w.setCell a x) (es.push ⟨.cell a,true,md==.atomic⟩)
   |none=>match w.farStore P a x (md==.atomic)with
    |.ok (w,F)=>k.runT P w (es++F.toArray.map (⟨.cell ·,true,md==.atomic⟩))
    |.error h=>(.halt h w,es):=by
   intro w es;cases x<;>first|rfl|exact absurd (.inl ⟨_,rfl⟩) K|exact absurd (.inr ⟨_,rfl⟩) K
  cases A:wl a with
  |none=>
   obtain⟨R,f1,f2⟩:=g.farS (P:=P) a x (md==.atomic);exact .inr (.inr ⟨R,wl,by rw[u,A];simp only[f1],f2⟩)
  |some y=>
   obtain⟨B,_,X,J,hf⟩:=g.cell A;cases L:wl.frozen? a with
   |true=>exact .inr (.inr ⟨.unsupported (.unsafePointer "a write to bytes that a string shares"),wl,by rw[u,A];simp only[L,aba],.inr ⟨_,rfl,λb h=>by cases h⟩⟩)
   |false=>
    rw[L]at hf;(have e1:(Sem.store md a x k).runT P wl d=k.runT P (wl.setCell a x) (d.push ⟨.cell a,true,md==.atomic⟩):=by rw[u,A];simp only[L];rfl);(have e2:(Sem.store md a x k).runT P v es=k.runT P (v.setCell a x) (es.push ⟨.cell a,true,md==.atomic⟩):=by rw[u,B];simp only[hf];rfl);rw[e1,e2];rw[e2]at l;have G:=g.set A W;refine(p (wl.setCell a x) (v.setCell a x) _ _ G (by rw[show((wl.setCell a x):Nat)=wl by simp[World.setCell]];exact n) l).step ⟨g.set_stay A,G,rfl,rfl,Zo _,show wl.drawn=wl.drawn+(v.drawn-v.drawn) by omega,by simp[World.setCell],rfl,rfl⟩ λe i=>?_;rcases aa2.1 i with i|rfl
    .exact .inl i
    exact .inr (.inr (.inl ⟨_,rfl,X,by simp only[World.setCell,acr];exact J⟩))
 |new D I p=>
  rename_i o k;intro wl v d es g n l;have e2:(Sem.new o k).runT P v es=(k wl).runT P {v with heap:=v.heap.push o} es:=by show(k v).runT P _ es=_;rw[g.size]
  have e1:(Sem.new o k).runT P wl d=(k wl).runT P {wl with heap:=wl.heap.push o} d:=rfl;rw[e1,e2];rw[e2]at l;exact(p wl (n _ (Zo _)) _ _ d es (g.push D) (λb M=>n b (by simp at M;omega)) l).step ⟨λb=>.refl g (λ_ h=>l5 h) (λ_ h=>l5 h),g.push D,rfl,rfl,Zo _,show wl.drawn=wl.drawn+(v.drawn-v.drawn) by omega,sM,rfl,rfl⟩ λe i=>.inl i
 |query hs I p=>
  rename_i s k;intro wl v d es g n l;have Y:=Sem.runT_bind' P s k wl d;have b2:=Sem.runT_bind' P s k v es;change(s.bind k).runT P wl d=_ at Y;change(s.bind k).runT P v es=_ at b2;rcases hs wl v g d es with⟨h,C,N⟩|⟨a,Z,C,N,U,h4⟩
  .refine .inr (.inr ⟨h,wl,?_,N⟩);rw[Y];generalize hr:s.runT P wl d=r at C⊢;obtain⟨r,e⟩:=r;simp only at C;subst C;rfl
  rw[b2,N]at l⊢;simp only at l⊢;have e1:∃H,(s.bind k).runT P wl d=(k a).runT P wl H:=by
   rw[Y];generalize hr:s.runT P wl d=r at C⊢;obtain⟨r,e⟩:=r;simp only at C;subst C;exact⟨_,rfl⟩
  obtain⟨H,e1⟩:=e1;rw[e1];exact(p a U wl v H Z g n l).step (.same g) h4
 |getObj V I hz p=>
  rename_i r k;intro wl v d es g n l;cases D:wl.heap[r]? with
  |none=>exact .inr (.inr ⟨.stuck "getObj: no such block",wl,by simp only[Sem.runT,D],.inl ⟨_,rfl⟩⟩)
  |some o=>
   by_cases B:IsC o
   .obtain⟨c,e,f,rfl⟩:=B;exact .inr (.inr ⟨.stuck "getObj: a row of cells",wl,by simp only[Sem.runT,D],.inl ⟨_,rfl⟩⟩)
   obtain⟨E,C,_,U⟩:=g.blk _ _ D;by_cases O:Void o
   .obtain⟨h,e,aa⟩:=hz o O;have u:(Sem.getObj r k).runT P wl d=(k o).runT P wl (d.push ⟨.obj r,false,o.isChan⟩):=by
     cases o<;>first|exact absurd ⟨_,_,_,rfl⟩ B|simp only[Sem.runT,D]
    rw[u,e];exact .inr (.inr ⟨h,wl,rfl,aa⟩)
   obtain rfl:=(U V B).resolve_right O;have u:∀(w:AK)(es:Array Nc),w.heap[r]?=E->(Sem.getObj r k).runT P w es=(k E).runT P w (es.push ⟨.obj r,false,E.isChan⟩):=by
    intro w es g;cases E<;>first|exact absurd ⟨_,_,_,rfl⟩ B|simp only[Sem.runT,g]
   rw[u wl _ D,u v _ C];rw[u v _ C]at l;refine(p E ((g.obj _ _ V D B).resolve_right O) wl v _ _ g n l).step (.same g) λe i=>?_;rcases aa2.1 i with i|rfl
   .exact .inl i
   exact .inr (.inr (.inr (.inl ⟨_,rfl,g.lt D⟩)))
 |setObj V D I p=>
  rename_i r o k;intro wl v d es g n l;cases A:wl.heap[r]? with
  |none=>exact .inr (.inr ⟨.stuck "setObj: no such block",wl,by simp only[Sem.runT,A],.inl ⟨_,rfl⟩⟩)
  |some o₀=>
   by_cases B:IsC o₀
   .obtain⟨c,e,f,rfl⟩:=B;exact .inr (.inr ⟨.stuck "setObj: a row of cells",wl,by simp only[Sem.runT,A],.inl ⟨_,rfl⟩⟩)
   obtain⟨E,C,N,U⟩:=g.blk _ _ A;have S:¬IsC E:=by
    rintro⟨c,t,z,rfl⟩;cases N with
    |same h=>exact h.elim
    |cells=>exact B ⟨_,_,_,rfl⟩
    |lost h=>exact h.elim
   have u:∀(E:Obj),¬IsC E->∀(w:AK)(es:Array Nc),w.heap[r]?=E->(Sem.setObj r o k).runT P w es=k.runT P {w with heap:=w.heap.setIfInBounds r o} (es.push ⟨.obj r,true,o.isChan⟩):=by
    intro E B w es g;cases E<;>first|exact absurd ⟨_,_,_,rfl⟩ B|simp only[Sem.runT,g]
   have G:=g.put B A (Md.odd D) D;rw[u _ B wl _ A,u _ S v _ C];rw[u _ S v _ C]at l;refine(p _ _ _ _ G (λb M=>n b (by simpa using M)) l).step ⟨λb=>by
    by_cases M:r=b
    .subst M;exact⟨λc t z h=>by rw[A]at h;cases h;exact absurd ⟨_,_,_,rfl⟩ B,λhn=>absurd V hn⟩
    exact .refl g (λ_ h=>by show(wl.heap.setIfInBounds r o)[b]?=_;rw[ZF M];exact h) (λ_ h=>by show(v.heap.setIfInBounds r o)[b]?=_;rw[ZF M];exact h),G,rfl,rfl,Zo _,show wl.drawn=wl.drawn+(v.drawn-v.drawn) by omega,sM,rfl,rfl⟩ λe i=>?_
   rcases aa2.1 i with i|rfl
   .exact .inl i
   exact .inr (.inr (.inr (.inl ⟨_,rfl,by simp only[abk];exact g.lt A⟩)))
 |choose I p=>
  rename_i q k;intro wl v d es g n l;cases hq:q.forced with
  |true=>
   (have e:∀(w:AK)(es:Array Nc),(Sem.choose q k).runT P w es=(k 0).runT P w es:=by intro w es;simp only[Sem.runT,hq,aba]);rw[e,e];rw[e]at l;exact p 0 wl v d es g n l
  |false=>
   (have e:∀(w:AK)(es:Array Nc),(Sem.choose q k).runT P w es=(k (q.cut (w.tape w.drawn q))).runT P {w with drawn:=w.drawn+1} es:=by intro w es;simp only[Sem.runT,hq];rfl);rw[e,e];rw[e]at l;have T:wl.tape wl.drawn q=v.tape v.drawn q:=by
    have:=l 0 q (by
     have:=(oL P (k (q.cut (v.tape v.drawn q))) {v with drawn:=v.drawn+1} es).1;simp only at this;omega)
    simpa using this
   rw[T];refine(p (q.cut (v.tape v.drawn q)) {wl with drawn:=wl.drawn+1} {v with drawn:=v.drawn+1} d es (g.at _ _) n λj q' hj=>?_).step ⟨λb=>.refl g (λ_ h=>h) (λ_ h=>h),g.at _ _,rfl,rfl,ade _,show wl.drawn+1=wl.drawn+(v.drawn+1-v.drawn) by omega,Zo _,rfl,rfl⟩ λe i=>.inl i;have:=l (j+1) q' (by simp only at hj;omega);simp only;rw[show wl.drawn+1+j=wl.drawn+(j+1) by omega,show v.drawn+1+j=v.drawn+(j+1) by omega];exact this
 |program I p=>exact λwl v d es g n l=>p wl v d es g n l
 |env I p=>
  rename_i k;intro wl v d es g n l;obtain⟨r,C,N⟩:=Lx wl;have e1:(Sem.sys .env k).runT P wl d=(k r).runT P wl (d.push ⟨.output,true,false⟩):=by simp only[Sem.runT,C]
  have e2:(Sem.sys .env k).runT P v es=(k r).runT P v (es.push ⟨.output,true,false⟩):=by simp only[Sem.runT,N v g.os]
  rw[e1,e2];rw[e2]at l;refine(p r wl v _ _ g n l).step (.same g) λe i=>?_;rcases aa2.1 i with i|rfl
  .exact .inl i
  exact .inr (.inr (.inr (.inr rfl)))
 |mark hm I p=>
  intro wl v d es g n l;refine(p wl v _ _ g n l).step (.same g) λe i=>?_;rcases aa2.1 i with i|rfl
  .exact .inl i
  exact .inr (.inl ⟨_,rfl,hm⟩)
end
end T
namespace T
open Go.Conc
variable{c:Prop}{cs:Array Aq}{r:Nat}{γ:Type}
section
variable{P:E2}{m:Md}{α β:Type}{Q:α->Prop}{Q':β->Prop}
def Qy2(P:E2)(m:Md)(Q:α->Prop)(s s':Sem α):Prop:=∀(b v:AK),Tr m b v->∀d es:Array Nc,(∃h,(s.runT P b d).1=.halt h b/\ot h)\/
 ∃a f,(s.runT P b d).1=.ok a b/\s'.runT P v es=(.ok a v,f)/\Q a/\∀e,e∈f->e∈es\/EvT m.Dd v e
def Qy2.pure{a:α}(h:Q a):Qy2 P m Q (Pure.pure a) (Pure.pure a):=λf v _ b es=>.inr ⟨a,es,rfl,rfl,h,λe d=>.inl d⟩
def Qy2.lost{h:Halt}{s':Sem α}(a:ot h):Qy2 P m Q (.halt h) s':=λd v _ b es=>.inl ⟨h,rfl,a⟩
def Qy2.stuck{a:String}{s':Sem α}:Qy2 P m Q (Go.stuck a) s':=.lost (.inl ⟨_,rfl⟩)
def Qy2.unsup{u:Unsupported}{s':Sem α}(h:∀b,u≠.initOrder b):Qy2 P m Q (Go.unsupported u) s':=.lost (.inr ⟨_,rfl,h⟩)
def gj(s:Sem α)(f:α->Sem β)(w:AK)(es:Array Nc):(s>>=f).runT P w es=match s.runT P w es with
 |(.ok a w',b)=>(f a).runT P w' b
 |(.halt h w',b)=>(.halt h w',b):=Sem.runT_bind' P s f w es
def fst_eq{δ:Type}{p:γ×δ}{a:γ}(h:p.1=a):∃d,p=(a,d):=⟨p.2,by rw[<-h]⟩
def Qy2.bind{s s':Sem α}{f f':α->Sem β}(h:Qy2 P m Q s s')(k:∀a,Q a->Qy2 P m Q' (f a) (f' a)):Qy2 P m Q' (s>>=f) (s'>>=f'):=by
 intro t v u g es;rw[gj,gj];rcases h t v u g es with⟨i,j,l⟩|⟨a,n,j,l,w,x⟩
 .obtain⟨d,e⟩:=fst_eq j;rw[e];exact .inl ⟨i,rfl,l⟩
 obtain⟨d,e⟩:=fst_eq j;rw[e,l];simp only;rcases k a w t v u d n with⟨i,o,p⟩|⟨b,q,o,p,y,z⟩
 .exact .inl ⟨i,o,p⟩
 exact .inr ⟨b,q,o,p,y,λe A=>(z e A).elim (x e) .inr⟩
def Qy2.program{f f':E2->Sem β}(h:Qy2 P m Q' (f P) (f' P)):Qy2 P m Q' (Go.program>>=f) (Go.program>>=f'):=λb v d a es=>h b v d a es
def Qy2.ite[Decidable c]{s t s' a:Sem α}(h:c->Qy2 P m Q s s')(k:¬c->Qy2 P m Q t a):Qy2 P m Q (if c then s else t) (if c then s' else a):=by
 split
 .exact h ‹_›
 exact k ‹_›
def Qy2.shape{f:Option (E1×Nat)->Sem β}(j:Qy2 P m Q' (f none) (f none))(h:∀e l n,l<=n->Qy2 P m Q' (f (some (e,l))) (f (some (e,n)))):Qy2 P m Q' (Go.shape r>>=f) (Go.shape r>>=f):=by
 intro d v g b es;show(∃h,((f (d.shape? r)).runT P d b).1=_/\_)\/∃a p,((f (d.shape? r)).runT P d b).1=_/\(f (v.shape? r)).runT P v es=_/\_;unfold World.shape?;cases k:d.heap[r]? with
 |none=>
  have q:v.heap[r]?=none:=by
   rw[Array.getElem?_eq_none_iff]at k⊢;rw[g.size];exact k
  rw[q];exact j d v g b es
 |some o=>
  obtain⟨s,t,u,_⟩:=g.blk _ _ k;rw[t];cases u with
  |same i=>cases o<;>first|exact j d v g b es|exact i.elim
  |cells y w=>exact h _ _ _ w d v g b es
  |view=>exact j d v g b es
  |lost x=>cases s<;>first|exact j d v g b es|exact x.elim
def qU(r:Nat):Qy2 P m (λ_=>True) (numberAt r) (numberAt r):=by
 have d:∀(w:AK)(es:Array Nc),(numberAt r).runT P w es=(match w.heap[r]? with
  |some (.cells ..)=>(.ok none w,es)
  |some o=>(match o with|.number a l=>(.ok (a,l) w,es.push ⟨.obj r,false,o.isChan⟩)|_=>(.ok none w,es.push ⟨.obj r,false,o.isChan⟩))
  |none=>(.halt (.stuck "getObj: no such block") w,es)):=by
  intro w es;show((if(w.shape? r).isSome then(Pure.pure none:Sem (Option (Es×Bool)))else Go.getObj r>>=λx=>match x with|.number a lost=>Pure.pure (a,lost)|_=>Pure.pure none)).runT P w es=_;unfold World.shape?;cases f:w.heap[r]? with
  |none=>
   show(Sem.getObj r _).runT P w es=_;simp only[Sem.runT,f]
  |some o=>
   cases o<;>first
    |rfl
    |(show(Sem.getObj r _).runT P w es=_;simp only[Sem.runT,f];rfl)
 intro p v n q es;rw[d,d];cases f:p.heap[r]? with
 |none=>exact .inl ⟨_,rfl,.inl ⟨_,rfl⟩⟩
 |some o=>
  obtain⟨s,u,y,_⟩:=n.blk _ _ f;rw[u];have j:¬IsC o->∀b,∀e,e∈es.push ⟨.obj r,false,b⟩->e∈es\/EvT m.Dd v e:=λB b e g=>by
   rcases aa2.1 g with g|rfl
   .exact .inl g
   exact .inr (.inr (.inr (.inl ⟨_,rfl,n.lt f⟩)))
  have k:∀{o:Obj},(∀c t z,o≠.cells c t z)->¬IsC o:=λh ⟨c,t,z,e⟩=>h c t z e;cases y with
  |same i=>cases o<;>first|exact i.elim|exact .inr ⟨_,_,rfl,rfl,trivial,j (k (by intros;simp)) _⟩
  |cells C D=>exact .inr ⟨_,_,rfl,rfl,trivial,λe g=>.inl g⟩
  |view=>exact .inr ⟨_,_,rfl,rfl,trivial,j (k (by intros;simp)) _⟩
  |lost A=>cases s<;>first|exact A.elim|exact .inr ⟨_,_,rfl,rfl,trivial,j (k (by intros;simp)) _⟩
def ir(a:Es):Qy2 P m (λ_=>True) (behindNumber a) (behindNumber a):=(qU _).bind λ_ _=>.pure trivial
def vP{f:Option (Es×E1)->Sem β}(B:∀x,∃q,f (some x)=.halt q/\ot q)(C:Qy2 P m Q' (f none) (f none)):Qy2 P m Q' (viewAt r>>=f) (viewAt r>>=f):=by
 have k:∀(w:AK)(es:Array Nc),(viewAt r).runT P w es=(match w.heap[r]? with
  |some (.cells ..)=>(.ok none w,es)
  |some o=>(match o with|.view a l=>(.ok (some (a,l)) w,es.push ⟨.obj r,false,o.isChan⟩)|_=>(.ok none w,es.push ⟨.obj r,false,o.isChan⟩))
  |none=>(.halt (.stuck "getObj: no such block") w,es)):=by
  intro w es;show((if(w.shape? r).isSome then(Pure.pure none:Sem (Option (Es×E1)))else Go.getObj r>>=λx=>match x with|.view a lost=>Pure.pure (some (a,lost))|_=>Pure.pure none)).runT P w es=_;unfold World.shape?;cases n:w.heap[r]? with
  |none=>
   show(Sem.getObj r _).runT P w es=_;simp only[Sem.runT,n]
  |some o=>
   cases o<;>first
    |rfl
    |(show(Sem.getObj r _).runT P w es=_;simp only[Sem.runT,n];rfl)
 intro j v s d es;rw[gj,gj,k,k];cases n:j.heap[r]? with
 |none=>exact .inl ⟨_,rfl,.inl ⟨_,rfl⟩⟩
 |some o=>
  obtain⟨D,E,F,_⟩:=s.blk _ _ n;rw[E];have y:¬IsC o->∀b,∀e,e∈es.push ⟨.obj r,false,b⟩->e∈es\/EvT m.Dd v e:=λK b e i=>by
   rcases aa2.1 i with i|rfl
   .exact .inl i
   exact .inr (.inr (.inr (.inl ⟨_,rfl,s.lt n⟩)))
  have A:∀{o:Obj},(∀c t z,o≠.cells c t z)->¬IsC o:=λh ⟨c,t,z,e⟩=>h c t z e;have u:∀d es₁:Array Nc,(∀e,e∈es₁->e∈es\/EvT m.Dd v e)->(∃h,((f none).runT P j d).1=.halt h j/\ot h)\/∃a g,((f none).runT P j d).1=.ok a j/\(f none).runT P v es₁=(.ok a v,g)/\Q' a/\∀e,e∈g->e∈es\/EvT m.Dd v e:=λd es₁ he₁=>by
   rcases C j v s d es₁ with h|⟨a,g,q1,G,H,I⟩
   .exact .inl h
   exact .inr ⟨a,g,q1,G,H,λe i=>(I e i).elim (he₁ e) .inr⟩
  cases F with
  |same p=>cases o<;>first|exact p.elim|exact u _ _ (y (A (by intros;simp)) _)
  |cells L M=>exact u _ _ λe i=>.inl i
  |view=>
   obtain⟨q,e1,e2⟩:=B (⟨0,0,some 0⟩,‹E1›);refine .inl ⟨q,?_,e2⟩;simp only;rw[e1];rfl
  |lost J=>cases D<;>first|exact J.elim|exact u _ _ (y (A (by intros;simp)) _)
def Gb(a:Es):Qy2 P m (λ_=>True) (noView a) (noView a):=vP (λx=>⟨_,rfl,.inr ⟨_,rfl,λb h=>by cases h⟩⟩) (.pure trivial)
def jZ(a:Es):Qy2 P m (λ_=>True) (byteOf a) (byteOf a):=by
 unfold byteOf;split
 .exact .pure trivial
 refine .program ((Gb a).bind λ_ _=>.shape .stuck λe d n _=>?_);dsimp only;refine .ite (λ_=>.pure trivial) λ_=>?_;generalize byteOfCell P P.depth e _=r;cases r with
 |none=>exact .stuck
 |some b=>exact .pure trivial
def AW{d e i c a:Nat}{b:Int}{x:Nat}(h:cellAtBytes P d e i a b=x)(l:i<=c):cellAtBytes P d e c a b=x:=by
 unfold cellAtBytes at h⊢;dsimp only at h⊢;split at h
 .cases h
 rename_i n;rw[Zr n];cases k:byteOfCell P d e (a%P.cellsOf e)with
 |none=>rw[k]at h;cases h
 |some f=>
  rw[k]at h;simp only[Option.bind_eq_bind,acy]at h⊢;split at h
  .cases h
  rename_i j;rw[Zr]
  .exact h
  have g:Int.ofNat (i*P.bytesOf e)<=Int.ofNat (c*P.bytesOf e):=Int.ofNat_le.2 (Z9 _ l);generalize Int.ofNat (i*P.bytesOf e)=q1 at j g;generalize Int.ofNat (c*P.bytesOf e)=o at g⊢;generalize Int.ofNat (a/P.cellsOf e*P.bytesOf e+f)+b=p at j⊢;simp only[abi,ZU]at j⊢;omega
def ie(g:m.Ok)(ts:Array E1)(t:E1)(x y:Aq):Qy2 P m m.V (Builtin.unsafeAdd_ ts t #[x,y]) (Builtin.unsafeAdd_ ts t #[x,y]):=by
 unfold Builtin.unsafeAdd_;cases x<;>first|exact .stuck|skip
 rename_i d;dsimp only;have f:Qy2 P m (λ_=>True) (asInt y) (asInt y):=by
  unfold asInt;refine Qy2.bind (Q:=λ_=>True) ?_ λ_ _=>.pure trivial;unfold asIntOf;split<;>first|exact .pure trivial|exact .stuck|exact .unsup sM
 refine f.bind λn _=>.ite (λ_=>?_) λ_=>.ite (λ_=>.unsup sM) λ_=>?_
 .cases d with
  |none=>exact .unsup sM
  |some a=>exact vP (λx=>⟨_,rfl,.inr ⟨_,rfl,λb h=>by cases h⟩⟩) (.pure (g.sc _ rfl))
 cases d with
 |none=>exact .unsup sM
 |some a=>
  refine .shape (.unsup sM) λe i k j=>.program ?_;cases l:cellAtBytes P P.depth e (i/P.cellsOf e) a.off n with
  |none=>exact .unsup sM
  |some o=>
   rw[AW l (Nat.div_le_div_right j)];exact .pure (g.sc _ rfl)
def xd{a:α}(h:Q a):Tl P m Q (Pure.pure a):=.pure h
def Tl.ite[Decidable c]{s t:Sem α}(a:c->Tl P m Q s)(b:¬c->Tl P m Q t):Tl P m Q (if c then s else t):=by
 split
 .exact a ‹_›
 exact b ‹_›
def ae3:=@Tl.ite
def gg{Q:β->Prop}{f:E2->Sem β}(h:Tl P m Q (f P)):Tl P m Q (Go.program>>=f):=Tl.program h
def cT(t:E1):Tl P m (λi=>P.info? t=some i) (typeInfo t):=by
 refine Tl.program ?_;show Tl P m (λi=>P.info? t=some i) (match P.info? t with|some i=>Pure.pure i|none=>Go.stuck "no such type");cases h:P.info? t with
 |none=>exact ae0
 |some i=>exact Tl.pure rfl
def aA(t:E1):Tl P m (λd=>P.underlying t=some d) (underlying t):=by
 refine Tl.program ?_;show Tl P m (λd=>P.underlying t=some d) (match P.underlying t with|some i=>Pure.pure i|none=>Go.stuck "no such type");cases h:P.underlying t with
 |none=>exact ae0
 |some i=>exact Tl.pure rfl
def bQ(t:E1):Tl P m (λ_=>True) (sizeOf t):=(cT t).bind λ_ _=>Tl.pure trivial
def sJ(t:E1):Tl P m (λ_=>True) (isAgg t):=(aA t).bind λd _=>by cases d<;>exact Tl.pure trivial
def kx(v:Aq):Tl P m (λ_=>True) (asIntOf v):=by
 unfold asIntOf;split<;>first|exact Tl.pure trivial|exact ae0|exact ae1 sM
def gI(v:Aq):Tl P m (λ_=>True) (asInt v):=(kx v).bind λ_ _=>Tl.pure trivial
def vr(v:Aq):Tl P m (λ_=>True) (asBool v):=by
 unfold asBool;split<;>first|exact Tl.pure trivial|exact ae0
def gG(v:Aq):Tl P m (λ_=>True) (Instr.sureAddr v):=by
 unfold Instr.sureAddr;split<;>first|exact Tl.pure trivial|exact ae0
def cn{e:RuntimeError}(h:(∃s,e=.error s)\/e=.nilDeref\/(∃x y s c,e=.bounds x y s c)\/∃s,e=.plain s):Tl P m Q (runtimePanic e:Sem α):=by
 refine Tl.program ?_;rcases h with⟨s,rfl⟩|rfl|⟨x,y,s,c,rfl⟩|⟨s,rfl⟩<;>exact Tl.panic
def jV(v:Aq):Tl P m (λ_=>True) (asAddr v):=by
 unfold asAddr;split<;>first|exact Tl.pure trivial|exact cn (.inr (.inl rfl))|exact ae0
def jU(k:IntKind)(x y:Int)(c:BoundsCode):Tl P m Q (boundsPanic k x y c:Sem α):=by
 unfold boundsPanic;dsimp only;have a:∀b,Tl P m Q (runtimePanic (.bounds (IntKind.i64.wrap x) y b c):Sem α):=λb=>cn (.inr (.inr (.inl ⟨_,_,_,_,rfl⟩)));split
 .exact Tl.choose λn=>a _
 exact a _
def mD(b:m.Ok){v:Aq}(h:m.V v):∀c,c∈v.cells->m.V c:=by
 cases v<;>first
  |exact(b.agg _).1 h
  |(intro c a;simp only[Value.cells,aaX,aag]at a;subst a;exact h)
def E0(h:∀c,c∈cs->m.V c)(i j:Nat):∀c,c∈cs.extract i j->m.V c:=by
 intro c b;obtain⟨k,a⟩:=aaF.1 b;rw[adr]at a;split at a
 .exact h c (ZS a)
 cases a
def Lt(d:m.Ok)(t:E1)(h:∀c,c∈cs->m.V c)(a:Nat):Tl P m m.V (part t cs a):=(sJ t).bind λb _=>by
 cases b with
 |true=>exact(bQ t).bind λn _=>Tl.pure ((d.agg _).2 (E0 h _ _))
 |false=>
  show Tl P m _ (match cs[a]? with|some v=>Pure.pure v|none=>Go.stuck "part: no such cell");cases e:cs[a]? with
  |none=>exact ae0
  |some v=>exact Tl.pure (h v (ZS e))
def lG(t:E1)(cs:Array Aq)(a:Nat):Tl P m (λ_=>True) (part t cs a):=(sJ t).bind λb _=>by
 cases b with
 |true=>exact(bQ t).bind λn _=>Tl.pure trivial
 |false=>
  show Tl P m _ (match cs[a]? with|some v=>Pure.pure v|none=>Go.stuck "part: no such cell");cases d:cs[a]? with
  |none=>exact ae0
  |some v=>exact Tl.pure trivial
def yI(d:m.Ok)(a:Es)(b:Bool):Tl P m m.V (asNumber a b):=Tl.new (o:=.number a b) trivial λr e=>Tl.pure (d.sc _ rfl)
def HI(l:List γ){f:γ->β->Sem (ForInStep β)}(a:∀x b,Tl P m (λ_=>True) (f x b)):∀b,Tl P m (λ_=>True) (forIn l b f):=by
 induction l with
 |nil=>intro b;exact Tl.pure trivial
 |cons x l d=>
  intro b;rw[aeO];refine(a x b).bind λs _=>?_;cases s with
  |done b=>exact Tl.pure trivial
  |yield b=>exact d b
def vq(l:Array γ){f:γ->β->Sem (ForInStep β)}(d:∀x,x∈l->∀b,Tl P m (λ_=>True) (f x b))(b:β):Tl P m (λ_=>True) (forIn l b f):=by
 rw[<-Array.forIn_toList];have a:∀x,x∈l.toList->∀b,Tl P m (λ_=>True) (f x b):=λx e=>d x (aaC.1 e);generalize l.toList=l at a;induction l generalizing b with
 |nil=>exact Tl.pure trivial
 |cons x l g=>
  rw[aeO];refine(a x sM b).bind λs _=>?_;cases s with
  |done b=>exact Tl.pure trivial
  |yield b=>exact g b λy h=>a y (by simp[h])
def vo(n:Nat){f:Nat->β->Sem (ForInStep β)}(a:∀x b,Tl P m (λ_=>True) (f x b))(b:β):Tl P m (λ_=>True) (forIn [:n] b f):=by
 rw[ab0];exact HI _ a b
def CY(P:E2):Nat->E1->Bool
 |0,_=>false
 |d+1,t=>match P.underlying t with
  |some .bool|some (.int _)|some (.float _)|some (.complex _)|some .string=>true
  |some (.struct a)=>a.all λf=>CY P d f.type
  |some (.array _ e)=>CY P d e
  |_=>false
def nS:∀(d k:Nat)(t:E1)(x y:Aq),CY P k t->Tl P m (λ_=>True) (Op.equalIn d t x y)
 |0,k,t,x,y,_=>ae1 sM
 |d+1,0,t,x,y,h=>by cases h
 |d+1,k+1,t,x,y,h=>by
  unfold Op.equalIn;refine(aA t).bind λu j=>?_;unfold CY at h;rw[j]at h;have l:=nS d k;have one:∀(e:E1)(cs ds:Array Aq)(m₁ m':Nat),CY P k e->Tl P m (λ_=>True) (do
   let a<-part e cs m₁
   let b<-part e ds m'
   let r<-Op.equalIn d e a b
   if(!r) then pure (ForInStep.done (some false,()))else pure (ForInStep.yield ((none:Option Bool),()))):=λe cs ds m₁ m' o=>
   (lG e cs m₁).bind λa _=>(lG e ds m').bind λb _=>(l e a b o).bind λr _=>ae3 (λ_=>Tl.pure trivial) λ_=>Tl.pure trivial
  have p:∀(a b:Es),Tl P m (λ_=>True) (do
   let(a,b):=((<-behindNumber a).1,(<-behindNumber b).1)
   if a.block==b.block&&a.block<(<-program).globals.size then return(<-byteOf a)==(<-byteOf b)
   let .named "sync.copyChecker" _:=(<-typeInfo t).desc|unsupported .addressObserved
   if a==b then pure true else unsupported .addressObserved:Sem Bool):=λa b=>
   (ae2 (ir a)).bind λx _=>(ae2 (ir b)).bind λy _=>gg (ae3 (λ_=>(ae2 (jZ _)).bind λ_ _=>(ae2 (jZ _)).bind λ_ _=>Tl.pure trivial) λ_=>(cT t).bind λi _=>by
    split
    .exact ae3 (λ_=>Tl.pure trivial) λ_=>ae1 sM
    exact ae1 sM)
  cases u<;>first|(cases h;done)|skip
  all_goals(dsimp only at h⊢;split)<;>first
   |exact ae0
   |exact Tl.pure trivial
   |exact ae1 sM
   |exact ae3 (λ_=>Tl.pure trivial) λ_=>ae0
   |exact p _ _
   |contradiction
   |skip
  .rename_i g;cases g;(refine(bQ _).bind λn _=>(vo _ (λi b=>?_) _).bind λr _=>by obtain⟨r,_⟩:=r;cases r<;>exact Tl.pure trivial);exact(one _ _ _ _ _ h).mono λs _=>trivial
  rename_i g;cases g;refine gg (ae3 (λ_=>Tl.lost (h:=.unsupported (.noEntry _)) (.inr ⟨_,rfl,λb h=>by cases h⟩)) λ_=>(vq _ (λf q b=>?_) _).bind λr _=>by obtain⟨r,_⟩:=r;cases r<;>exact Tl.pure trivial);exact ae3 (λ_=>(one f.type _ _ _ _ (ZY.1 h f q)).mono λs _=>trivial) λ_=>Tl.pure trivial
def kv:∀(d:Nat)(t:E1)(x y:Aq),Tl P m (λ_=>True) (Op.eqGuardIn d t x y)
 |0,t,x,y=>ae1 sM
 |d+1,t,x,y=>by
  unfold Op.eqGuardIn;refine(aA t).bind λu _=>?_;have g:=kv d;have one:∀(e:E1)(cs ds:Array Aq)(m₁ m':Nat),Tl P m (λ_=>True) (do
   let a<-part e cs m₁
   let b<-part e ds m'
   let r<-Op.eqGuardIn d e a b
   if r then pure (ForInStep.done (some true,()))else pure (ForInStep.yield ((none:Option Bool),()))):=λe cs ds m₁ m'=>
   (lG e cs m₁).bind λa _=>(lG e ds m').bind λb _=>(g e a b).bind λr _=>ae3 (λ_=>Tl.pure trivial) λ_=>Tl.pure trivial
  split<;>first|exact Tl.pure trivial|skip
  ·(refine(vq _ (λf _ b=>?_) _).bind λr _=>by obtain⟨r,_⟩:=r;cases r<;>exact Tl.pure trivial);exact ae3 (λ_=>(one f.type _ _ _ _).mono λs _=>trivial) λ_=>Tl.pure trivial
  refine(bQ _).bind λn _=>(vo _ (λi b=>?_) _).bind λr _=>by obtain⟨r,_⟩:=r;cases r<;>exact Tl.pure trivial
  exact(one _ _ _ _ _).mono λs _=>trivial
def BJ(op:BinOp)(t:E1)(x y:Operand)(a b:Aq):Tl P m (λ_=>True) (eqGuard op t x y a b):=by
 unfold eqGuard;refine ae3 (λ_=>Tl.pure trivial) λ_=>?_;split
 .refine ae3 (λ_=>Tl.pure trivial) λ_=>?_;exact(kv _ t _ _).bind λr _=>ae3 (λ_=>ae1 sM) λ_=>Tl.pure trivial
 .refine gg (gg (ae3 (λ_=>Tl.pure trivial) λ_=>?_));exact(kv _ t _ _).bind λr _=>ae3 (λ_=>ae1 sM) λ_=>Tl.pure trivial
 exact Tl.pure trivial
def nG(a:m.Ok)(op:BinOp)(k:FloatKind)(x y:Nat):Tl P m m.V (Op.floatArith op k x y):=by
 have b:∀r:Option Nat,Tl P m m.V (match r with
  |some r=>Pure.pure (Value.float k r)
  |none=>do Pure.pure (Value.float k (<-choose (.nanBits k x y)))):=λr=>by
  cases r with
  |some r=>exact Tl.pure (a.sc _ rfl)
  |none=>exact Tl.choose λn=>Tl.pure (a.sc _ rfl)
 unfold Op.floatArith;cases op<;>first|exact b _|exact ae0
def qO(a:m.Ok)(op:BinOp)(k:FloatKind)(x y:Nat):Tl P m m.V (Op.floatCmp op k x y):=by
 unfold Op.floatCmp;dsimp only;cases op<;>first|exact Tl.pure (a.sc _ rfl)|exact ae0
def lJ(a:m.Ok)(op:BinOp)(k:FloatKind)(x y:Nat):Tl P m (λ_=>True) (Op.Complex.arith op k x y):=by
 unfold Op.Complex.arith;refine(nG a op k x y).bind λv _=>?_;cases v<;>first|exact Tl.pure trivial|exact ae0
def xi(a:m.Ok)(op:BinOp)(k:FloatKind)(x y:Nat):Tl P m (λ_=>True) (Op.Complex.cmp op k x y):=(qO a op k x y).bind λv _=>vr v
def O1(a:m.Ok)(src:FloatKind)(x:Nat)(b:FloatKind):Tl P m m.V (Conv.floatToFloat src x b):=by
 unfold Conv.floatToFloat;refine ae3 (λ_=>Tl.pure (a.sc _ rfl)) λ_=>?_;split
 .exact Tl.choose λn=>Tl.pure (a.sc _ rfl)
 .exact Tl.pure (a.sc _ rfl)
 exact ae3 (λ_=>Tl.choose λn=>Tl.pure (a.sc _ rfl)) λ_=>Tl.pure (a.sc _ rfl)
def gH(b:m.Ok)(src:FloatKind)(x:Nat)(a:FloatKind):Tl P m (λ_=>True) (Op.Complex.conv src x a):=by
 unfold Op.Complex.conv;refine ae3 (λ_=>Tl.pure trivial) λ_=>(O1 b src x a).bind λv _=>?_;cases v<;>first|exact Tl.pure trivial|exact ae0
def BE(e:m.Ok)(a b c d:Nat):Tl P m (λ_=>True) (Op.Complex.product a b c d):=by
 unfold Op.Complex.product Op.Complex.sub Op.Complex.mul Op.Complex.add;repeat'(first|with_reducible exact lJ e _ _ _ _|with_reducible exact xd trivial|with_reducible refine Tl.bind (Q:=λ_=>True) ?_ λ_ _=>?_)
def xg(e:m.Ok)(s a b c d:Nat):Tl P m (λ_=>True) (Op.Complex.corrected s a b c d):=by
 unfold Op.Complex.corrected Op.Complex.sub Op.Complex.mul Op.Complex.add;repeat'(first|with_reducible exact lJ e _ _ _ _|with_reducible exact xd trivial|with_reducible refine Tl.bind (Q:=λ_=>True) ?_ λ_ _=>?_)
def yF(e:m.Ok)(a b c d:Nat):Tl P m (λ_=>True) (Op.Complex.quotient a b c d):=by
 unfold Op.Complex.quotient Op.Complex.quo Op.Complex.sub Op.Complex.mul Op.Complex.add;dsimp only;repeat'(first|with_reducible exact lJ e _ _ _ _|with_reducible exact xi e _ _ _ _|with_reducible exact xg e _ _ _ _ _|with_reducible exact xd trivial|with_reducible refine ae3 (λ_=>?_) λ_=>?_|with_reducible refine Tl.bind (Q:=λ_=>True) ?_ λ_ _=>?_)
def xh(e:m.Ok)(op:BinOp)(k:FloatKind)(a b c d:Nat):Tl P m m.V (Op.complexOp op k a b c d):=by
 unfold Op.complexOp;cases op<;>first
  |exact ae0
  |exact(lJ e _ _ _ _).bind λ_ _=>(lJ e _ _ _ _).bind λ_ _=>Tl.pure (e.sc _ rfl)
  |exact(xi e _ _ _ _).bind λ_ _=>(xi e _ _ _ _).bind λ_ _=>Tl.pure (e.sc _ rfl)
  |exact(gH e _ _ _).bind λ_ _=>(gH e _ _ _).bind λ_ _=>(gH e _ _ _).bind λ_ _=>(gH e _ _ _).bind λ_ _=>ae3 (λ_=>(BE e _ _ _ _).bind λ_ _=>(gH e _ _ _).bind λ_ _=>(gH e _ _ _).bind λ_ _=>Tl.pure (e.sc _ rfl)) λ_=>(yF e _ _ _ _).bind λ_ _=>(gH e _ _ _).bind λ_ _=>(gH e _ _ _).bind λ_ _=>Tl.pure (e.sc _ rfl)
  |skip
def lH(f:m.Ok)(t:E1)(x y:Aq):Tl P m m.V (movedNumber t x y):=by
 unfold movedNumber;refine(aA t).bind λu _=>?_;have e:Tl P m m.V (do
  let .pointer (some n):=x|Builtin.unsafeAdd_ #[] t #[x,y]
  let(a,d)<-behindNumber n
  match<-Builtin.unsafeAdd_ #[] t #[.pointer (some a),y]with
  |.pointer (some b)=>asNumber b d
  |v=>pure v):=by
  split
  .refine(ae2 (ir _)).bind λr _=>?_;obtain⟨a,d⟩:=r;refine(ae2 (ie f _ _ _ _)).bind λv g=>?_;split
   .exact yI f _ _
   exact Tl.pure g
  exact ae2 (ie f _ _ _ _)
 cases u<;>first|exact e|exact Tl.lost (.inr ⟨_,rfl,λb h=>by cases h⟩)
def rv(a:m.Ok)(t:E1)(x y:Aq):Tl P m m.V (movedPointer t x y):=by
 unfold movedPointer;split
 .refine(ae2 (qU _)).bind λr _=>?_;cases r with
  |none=>exact ae3 (λh=>by cases h) λ_=>ae2 (ie a #[] t _ _)
  |some r=>exact Tl.lost (.inr ⟨_,rfl,λb h=>by cases h⟩)
 exact ae2 (ie a _ _ _ _)
def HF(a b:Es):Tl P m (λ_=>True) (Op.twoPlaces a b):=by
 unfold Op.twoPlaces;refine gg ?_;dsimp only;exact ae3 (λ_=>Tl.lost (.inr ⟨_,rfl,λb h=>by cases h⟩)) λ_=>(ae2 (jZ a)).bind λ_ _=>(ae2 (jZ b)).bind λ_ _=>Tl.pure trivial
def BM(d:m.Ok)(k:IntKind)(a b:Es):Tl P m m.V (Op.addrSub k a b):=(HF a b).bind λ_ _=>Tl.pure (d.sc _ rfl)
def BO(d:m.Ok)(op:BinOp)(a b:Es):Tl P m m.V (Op.addrCmp op a b):=(HF a b).bind λr _=>by
 cases op<;>first|exact Tl.pure (d.sc _ rfl)|exact ae1 sM
def zv(t:E1):Qy2 P m (λ_=>True) (typeInfo t) (typeInfo t):=by
 refine Qy2.program (f:=λp=>match p.info? t with|some i=>Pure.pure i|none=>Go.stuck "no such type") (f':=λp=>match p.info? t with|some i=>Pure.pure i|none=>Go.stuck "no such type") ?_;cases h:P.info? t with
 |none=>exact .stuck
 |some i=>exact .pure trivial
def BN(d:m.Ok)(k:IntKind)(a:Es)(n:Int):Tl P m m.V (Op.addrMod k a n):=by
 refine ae2 (Q:=m.V) ?_;show Qy2 P m m.V (Op.addrMod k a n) (Op.addrMod k a n);unfold Op.addrMod;refine .shape (.unsup sM) λe f k' _=>?_;refine(zv e).bind λi _=>?_;dsimp only;exact .ite (λ_=>.lost (.inr ⟨_,rfl,λb h=>by cases h⟩)) λ_=>(jZ a).bind λ_ _=>.pure (d.sc _ rfl)
def HK(d:m.Ok)(op:BinOp)(t:E1)(x y:Aq)(g:(op=.eql\/op=.neq)->CY P 8 t):Tl P m m.V (binOp op t x y):=by
 have e1:∀x y,op=.eql->Tl P m m.V (do pure (.bool (<-Op.equal t x y))):=λx y h=>(nS _ 8 t x y (g (.inl h))).bind λr _=>Tl.pure (d.sc _ rfl);have e2:∀x y,op=.neq->Tl P m m.V (do pure (.bool (!(<-Op.equal t x y)))):=λx y h=>(nS _ 8 t x y (g (.inr h))).bind λr _=>Tl.pure (d.sc _ rfl);have st:∀op a b,Tl P m m.V (Op.stringOp op a b):=λop a b=>by
  unfold Op.stringOp;cases op<;>first|exact Tl.pure (d.sc _ rfl)|exact ae0|exact ae3 (λ_=>ae1 sM) λ_=>Tl.pure (d.sc _ rfl)
 have l:∀op k a i b,Tl P m m.V (Op.shift op k a i b):=λop k a i b=>by
  unfold Op.shift;refine ae3 (λ_=>cn (.inl ⟨_,rfl⟩)) λ_=>?_;cases op<;>first|exact Tl.pure (d.sc _ rfl)|exact ae0
 have n:∀op k a b,Tl P m m.V (Op.intDiv op k a b):=λop k a b=>by
  unfold Op.intDiv;refine ae3 (λ_=>cn (.inl ⟨_,rfl⟩)) λ_=>?_;cases op<;>first|exact Tl.pure (d.sc _ rfl)|exact ae0
 have o:∀op k a b,Tl P m m.V (Op.intArith op k a b):=λop k a b=>by
  unfold Op.intArith;cases op<;>first|exact Tl.pure (d.sc _ rfl)|exact ae0
 have p:∀op k a b,Tl P m m.V (Op.intBits op k a b):=λop k a b=>by
  unfold Op.intBits;cases op<;>first|exact Tl.pure (d.sc _ rfl)|exact ae0
 have q:∀op a b,Tl P m m.V (Op.intCmp op a b):=λop a b=>by
  unfold Op.intCmp;cases op<;>first|exact Tl.pure (d.sc _ rfl)|exact ae0
 have s:∀x y,Tl P m m.V (do if(<-underlying t) matches .unsafePointer then movedPointer t x y else movedNumber t x y):=λx y=>
  (aA t).bind λu _=>by cases u<;>first|exact lH d _ _ _|exact rv d _ _ _
 have v:∀(a:Es)(f:Es->Sem Aq),(∀b,Tl P m m.V (f b))->Tl P m m.V (do f (<-behindNumber a).1):=λa f e=>(ae2 (ir a)).bind λx _=>e _;have j:∀(a b:Es)(f:Es->Es->Sem Aq),(∀a b,Tl P m m.V (f a b))->Tl P m m.V (do f (<-behindNumber a).1 (<-behindNumber b).1):=λa b f e=>(ae2 (ir a)).bind λx _=>(ae2 (ir b)).bind λy _=>e _ _;unfold binOp;split<;>first
  |exact ae0
  |exact ae1 sM
  |exact l _ _ _ _ _
  |exact st _ _ _
  |exact e1 _ _ rfl
  |exact e2 _ _ rfl
  |exact s _ _
  |exact lH d _ _ _
  |exact j _ _ _ λa b=>BM d _ a b
  |exact j _ _ _ λa b=>BO d _ a b
  |exact v _ (λa=>Op.addrMod _ a _) λa=>BN d _ a _
  |exact ae3 (λ_=>ae0) λ_=>xh d _ _ _ _ _ _
  |(refine ae3 (λ_=>ae0) λ_=>?_;split<;>first|exact o _ _ _ _|exact n _ _ _ _|exact p _ _ _ _|exact q _ _ _|exact nG d _ _ _ _|exact qO d _ _ _ _)
  |skip
def HE(a:m.Ok)(op:UnOp)(x:Aq):Tl P m m.V (Op.unary op x):=by
 unfold Op.unary;split<;>first
  |exact ae0
  |exact ae1 sM
  |exact Tl.pure (a.sc _ rfl)
end
end T
namespace T
open Go.Conc
variable{ps:Array (Nat×Aq)}{t:E1}{v x:Aq}
def cvc(d:Nat->Bool):Aq->Bool
 |.bool _|.int _ _|.string _|.nilFunc|.nilIface|.pointer none|.slice none _ _=>true
 |.func (.func f) a b=>d f&&a.isEmpty&&b.isEmpty
 |.agg cs=>cs.all λc=>match c with|.func (.func f) a b=>d f&&a.isEmpty&&b.isEmpty|.bool _|.int _ _|.string _|.nilFunc|.nilIface|.pointer none|.slice none _ _=>true|_=>false
 |.tuple e=>e.isEmpty
 |_=>false
def zvc(a:Nat->Bool):Aq->Bool
 |.tuple b=>b.all (cvc a)
 |v=>cvc a v
def nO(P:E2)(a:Nat->Bool)(t:E1):Bool:=match P.info? t with
 |some i=>(match i.zero with|some v=>zvc a v|none=>true)
 |none=>true
def kS(P:E2)(a:Nat->Bool)(t:E1):Bool:=match P.underlying t with
 |some (.slice e)=>nO P a e
 |_=>true
section
variable{P:E2}{m:Md}{α β:Type}
def sx(d:m.Ok)(h:cvc m.good v):m.V v:=by
 have fn:∀{f:Nat}{a b:Array Aq},(m.good f&&a.isEmpty&&b.isEmpty)->m.V (.func (.func f) a b):=by
  intro f a b h;simp only[aab,adq]at h;obtain⟨⟨e,rfl⟩,rfl⟩:=h;exact d.fn f _ _ e sM sM
 unfold cvc at h;split at h<;>first|exact d.sc _ rfl|skip
 .exact fn h
 .refine(d.agg _).2 λc g=>?_;have:=ZY.1 h c g;split at this<;>first|exact d.sc _ rfl|exact fn this|cases this
 .rw[adq]at h;subst h;exact(d.tup _).2 sM
 cases h
def Hw(a:m.Ok)(h:zvc m.good v):m.V v:=by
 unfold zvc at h;split at h
 .exact(a.tup _).2 λx b=>sx a (ZY.1 h x b)
 exact sx a h
def rT{e:E1}(h:kS P m.good t)(a:P.underlying t=some (.slice e)):nO P m.good e:=by
 unfold kS at h;rw[a]at h;exact h
def mF(b:m.Ok)(a:nO P m.good t):Tl P m m.V (zeroValue t):=(cT t).bind λi c=>by
 cases h:i.zero with
 |none=>exact ae1 sM
 |some v=>
  refine Tl.pure ?_;unfold nO at a;rw[c]at a;simp only[h]at a;exact Hw b a
def mB(a:m.Ok):m.V C0:=(a.tup _).2 sM
def DC(a:Es):Tl P m m.V (Go.load a):=Tl.load λ_ b=>Tl.pure b
def ku(a:Es):∀(n i:Nat)(b:Array Aq),(∀c,c∈b->m.V c)->Tl P m (λv=>∀c,c∈v->m.V c) (loadCellsFrom a i n b)
 |0,i,b,h=>Tl.pure h
 |n+1,i,b,h=>(DC _).bind λv e=>ku a n (i+1) _ λc d=>by
  rcases aa2.1 d with d|rfl
  .exact h c d
  exact e
def jJ(a:Es):∀(b:List Aq)(i:Nat),(∀c,c∈b->m.V c)->Tl P m (λ_=>True) (storeCells a b i)
 |[],i,h=>Tl.pure trivial
 |v::b,i,h=>Tl.store (h v sM) (jJ a b (i+1) λc d=>h c (by simp[d]))
def sI(c:m.Ok)(a:Es)(t:E1):Tl P m m.V (loadVar t a):=(sJ t).bind λb _=>by
 cases b with
 |true=>exact(bQ t).bind λn _=>(ku a n 0 #[] sM).bind λv d=>Tl.pure ((c.agg _).2 d)
 |false=>exact DC a
def yE(b:m.Ok)(a:Es)(t:E1)(h:m.V v):Tl P m (λ_=>True) (storeVar t a v):=(bQ t).bind λn _=>by
 dsimp only;split
 .exact ae0
 exact jJ a _ 0 λc d=>mD b h c (aaC.1 d)
def mG(t:E1){cs:Array Aq}(h:∀c,c∈cs->m.V c):Tl P m (λ_=>True) (newRow t cs):=Tl.new (o:=.cells cs t) h λr a=>Tl.pure trivial
def pN(a:m.Ok)(t:E1)(h:m.V v):Tl P m (λ_=>True) (newVar t v):=mG t (mD a h)
def BL(g:m.Ok){src c:E1}{k i:IntKind}(j:P.underlying src=some (.int i))(l:P.underlying c=some (.int k))(x:Aq):Tl P m m.V (convert src c x):=by
 unfold convert;refine(aA src).bind λu h=>(aA c).bind λd e=>?_;rw[l]at e;rw[j]at h;obtain rfl:=ZO e;obtain rfl:=ZO h;cases x<;>first|exact Tl.pure (g.sc _ rfl)|exact ae1 sM|skip
 .rename_i s b;have f:Tl P m m.V (do pure (.int k (k.wrap (<-choose (.floatToInt s b k))))):=Tl.choose λn=>Tl.pure (g.sc _ rfl);unfold Conv.floatToInt;dsimp only;split
  .exact ae3 (λ_=>Tl.pure (g.sc _ rfl)) λ_=>f
  exact f
 rename_i a;cases a<;>exact ae1 sM
def HH(c:m.Ok)(t:E1)(d:m.V x)(i:Aq):Tl P m m.V (Instr.index t x i):=by
 unfold Instr.index;refine(kx i).bind λr _=>?_;obtain⟨k,i⟩:=r;dsimp only;refine(aA t).bind λu _=>?_;cases x<;>cases u<;>first|exact ae0|skip
 .rename_i s _;dsimp only;generalize(if 0<=i then s[i.toNat]? else none)=r;cases r with
  |none=>exact jU _ _ _ _
  |some b=>exact Tl.pure (c.sc _ rfl)
 rename_i cs e a _;exact ae3 (λ_=>(bQ a).bind λn _=>Lt c _ ((c.agg _).1 d) _) λ_=>jU _ _ _ _
def BI(a:m.Ok)(b:m.V x)(i:Nat):Tl P m m.V (Instr.extract x i):=by
 unfold Instr.extract;cases x<;>first|exact ae0|skip
 rename_i c;dsimp only;cases d:c[i]? with
 |none=>exact ae0
 |some v=>exact Tl.pure ((a.tup _).1 b v (ZS d))
def xS(q:m.Ok)(a:Nat->Option (Nat×Nat)):∀(l:List (Nat×Aq))(cells cs:Array Aq),(∀c,c∈cells->m.V c)->(∀p,p∈l->m.V p.2)->Instr.fill a cells l=cs->∀c,c∈cs->m.V c
 |[],cells,cs,e,_,h=>by
  simp only[Instr.fill,Zt]at h;subst h;exact e
 |(i,v)::f,cells,cs,e,r,h=>by
  unfold Instr.fill at h;split at h
  .cases h
  rename_i g size _;split at h
  .cases h
  refine xS q a f _ cs ?_ (λp k=>r p (by simp[k])) h;have w:=mD q (r (i,v) sM);have n:∀(l:List (Aq×Nat))(cs:Array Aq),(∀c,c∈cs->m.V c)->(∀x,x∈l->m.V x.1)->∀c,c∈l.foldl (λcs(x:Aq×Nat)=>cs.setIfInBounds (g+x.2) x.1) cs->m.V c:=by
   intro l;induction l with
   |nil=>intro cs e _ c h;exact e c h
   |cons x l z=>
    intro cs e s c h;refine z _ (λd A=>?_) (λy B=>s y (by simp[B])) c h;obtain⟨j,b⟩:=aaF.1 A;rcases gi b with⟨_,rfl⟩|b
    .exact s x sM
    exact e d (ZS b)
  rw[<-adb];refine n _ _ e λx u=>w x.1 ?_;rw[aaC]at u;obtain⟨j,b⟩:=aaF.1 u;rw[Array.getElem?_zipIdx]at b;cases o:v.cells[j]? with
  |none=>rw[o]at b;cases b
  |some y=>rw[o]at b;cases b;exact ZS o
def Dz{γ δ:Type}{f:γ->Sem δ}{Q:δ->Prop}(g:∀x,Tl P m Q (f x))(e:Array γ):Tl P m (λc=>∀y,y∈c->Q y) (e.mapM f):=by
 rw[acT,<-ac0];generalize e.toList=l;have:∀b:Array δ,(∀y,y∈b->Q y)->Tl P m (λc=>∀y,y∈c->Q y) (l.foldlM (λb a=>do pure (b.push (<-f a))) b):=by
  induction l with
  |nil=>intro b h;exact Tl.pure h
  |cons x l i=>
   intro b h;rw[acX];refine Tl.bind (Q:=λc=>∀y,y∈c->Q y) ((g x).bind λy j=>Tl.pure λz d=>?_) λb h=>i b h;rcases aa2.1 d with d|rfl
   .exact h z d
   exact j
 exact this #[] sM
def nP(a:m.Ok){z:Aq}(b:m.V z)(n:Nat):∀c,c∈(Array.range n).map (λi=>z.cells[i%z.cells.size]!)->m.V c:=by
 intro c d;obtain⟨i,_,rfl⟩:=ac3.1 d;by_cases h:i%z.cells.size<z.cells.size
 .rw[getElem!_pos z.cells _ h];exact mD a b _ sM
 rw[getElem!_neg z.cells _ h];exact a.sc _ rfl
def HJ(b:m.Ok)(e:nO P m.good t)(j:∀p,p∈ps->m.V p.2):Tl P m m.V (Instr.build t ps):=by
 unfold Instr.build;refine(mF b e).bind λz e=>(aA t).bind λu _=>?_;have c:∀p,p∈ps.toList->m.V p.2:=λp h=>j p (aaC.1 h);cases u<;>first|exact ae0|skip
 .rename_i k d _;refine(bQ d).bind λn _=>?_;generalize i:Instr.fill _ z.cells ps.toList=r;cases r with
  |none=>exact ae0
  |some cs=>exact Tl.pure ((b.agg _).2 (xS b _ _ _ _ (mD b e) c i))
 rename_i a _;refine(Dz (Q:=λ_=>True) (λf=>(bQ f.type).bind λn _=>Tl.pure trivial) a).bind λg _=>?_;generalize i:Instr.fill _ z.cells ps.toList=r;cases r with
 |none=>exact ae0
 |some cs=>exact Tl.pure ((b.agg _).2 (xS b _ _ _ _ (mD b e) c i))
def uI(j:m.Ok)(k:kS P m.good t){d:Nat}(s:∀p,p∈ps->m.V p.2):Tl P m m.V (Instr.buildSlice t d ps):=by
 unfold Instr.buildSlice;refine(aA t).bind λu w=>?_;have l:∀p,p∈ps.toList->m.V p.2:=λp h=>s p (aaC.1 h);cases u<;>first|exact ae0|skip
 rename_i e;refine(bQ e).bind λn _=>ae3 (λ_=>Tl.lost (.inr ⟨_,rfl,λb h=>by cases h⟩)) λ_=>?_;have f:∀g:Array Aq,(∀c,c∈(Array.range (d*n)).map (λi=>g[i%g.size]!)->m.V c)->Tl P m m.V (do
  let some cells:=Instr.fill (λi=>some (i*n,n)) ((Array.range (d*n)).map (λi=>g[i%g.size]!)) ps.toList
   |Go.stuck "buildSlice: a part of the wrong size"
  pure (.slice (<-newRow e cells) d d)):=by
  intro g o;generalize y:Instr.fill _ _ ps.toList=r;cases r with
  |none=>exact ae0
  |some cs=>exact(mG e (xS j _ _ _ _ o l y)).bind λa A=>Tl.pure (j.sc _ rfl)
 by_cases q:d*n=0
 .rw[ZC q];refine f #[] ?_;rw[q];simp
 rw[Zr q];exact(mF j (rT k w)).bind λz k=>f z.cells (nP j k _)
def BH(h:m.Ok){s f:Nat}{e:Array Field}{c:Field}{i:TypeInfo}(j:P.underlying s=some (.struct e))(k:e[f]?=c)(l:P.info? c.type=i)(o:i.size≠0)(v:Aq):Tl P m m.V (Instr.fieldAt s v f):=by
 unfold Instr.fieldAt;refine(aA s).bind λu g=>?_;rw[j]at g;obtain rfl:=ZO g;simp only[k];refine(gG v).bind λa p=>?_;refine Tl.bind (Q:=λ_=>True) ?_ λa p=>Tl.pure (h.sc _ rfl);unfold fieldPlace;refine Tl.bind (Q:=λn=>n=i.size) ((cT c.type).bind λq b=>Tl.pure (by rw[l]at b;rw[ZO b])) λn d=>?_;subst d;rw[Zr o];exact Tl.pure trivial
def BG(f:m.Ok)(t:E1)(x e:Aq):Tl P m m.V (Instr.indexAt t x e):=by
 unfold Instr.indexAt;refine(kx e).bind λr _=>?_;obtain⟨k,i⟩:=r;dsimp only;have d:∀(base:Option Es)(c:Nat)(b:E1),Tl P m m.V
  (do
   let u<-underlying t
   match base with
   |some a=>
    if 0<=i/\i<c then pure (.pointer (a.add (i.toNat*(<-sizeOf b))))
    else if(c<=1&&(match u with|.array ..=>true|_=>false)) then unsupported (.noEntry "op/indexAddr.an index out of range at an array of length 0 or 1 (ledger 616)")
    else boundsPanic k i c .index
   |none=>boundsPanic k i 0 .index):=by
  intro base c b;refine(aA t).bind λu _=>?_;cases base with
  |none=>exact jU _ _ _ _
  |some a=>exact ae3 (λ_=>(bQ b).bind λn _=>Tl.pure (f.sc _ rfl)) λ_=>ae3 (λ_=>ae1 sM) λ_=>jU _ _ _ _
 refine(aA t).bind λu g=>?_;cases u with
 |array c b=>exact(gG x).bind λa h=>d a c b
 |slice b=>cases x<;>first|exact ae0|exact d _ _ b
 |_=>exact ae0
def jK(x:Aq)(y:Nat)(c:BoundsCode):Tl P m (λ_=>True) (Instr.sliceBound x y c):=by
 unfold Instr.sliceBound;exact(kx x).bind λr _=>ae3 (λ_=>Tl.pure trivial) λ_=>jU _ _ _ _
def fN(b:Bool)(n k:Nat)(a c:Option Aq):Tl P m (λ_=>True) (Instr.sliceBounds b n k a c none):=by
 unfold Instr.sliceBounds;dsimp only;cases c with
 |none=>
  cases a with
  |none=>exact Tl.pure trivial
  |some v=>exact(jK v _ _).bind λl _=>Tl.pure trivial
 |some w=>
  refine(jK w _ _).bind λh _=>?_;cases a with
  |none=>exact Tl.pure trivial
  |some v=>exact(jK v _ _).bind λl _=>Tl.pure trivial
def BA(i:m.Ok)(t:E1)(x:Aq)(f g:Option Aq):Tl P m m.V (Instr.sliceAt t x f g none):=by
 unfold Instr.sliceAt;refine(aA t).bind λu _=>?_;have j:Tl P m m.V (Instr.slice t x f g none):=by
  unfold Instr.slice;refine(aA t).bind λu _=>?_;have k:∀e,Tl P m m.V (do
   let a<-asAddr x
   let .array n b<-underlying e|Go.stuck "Slice: array type expected"
   let(l,h,m)<-Instr.sliceBounds false n n f g none
   let size<-sizeOf b
   pure (.slice (some (if m=l then a else a.add (l*size))) (h-l) (m-l))):=λe=>(jV x).bind λa o=>(aA e).bind λd _=>by
   cases d with
   |array n b=>exact(fN false n n f g).bind λr _=>(bQ b).bind λs _=>Tl.pure (i.sc _ rfl)
   |_=>exact ae0
  cases u with
  |pointer e=>exact k e
  |string=>
   cases x with
   |string s=>exact(fN false _ _ f g).bind λr _=>Tl.pure (i.sc _ rfl)
   |_=>exact ae0
  |slice b=>
   cases x with
   |slice a l c=>
    refine(fN true _ _ f g).bind λr _=>(bQ b).bind λs _=>?_;exact Tl.pure (i.sc _ rfl)
   |_=>exact ae0
  |_=>exact ae0
 cases u with
 |array n b=>exact(gG x).bind λa o=>(fN false n n f g).bind λr _=>(bQ b).bind λs _=>Tl.pure (i.sc _ rfl)
 |_=>exact j
def sK(n:Nat):Tl P m (λ_=>True) (askRoom n):=by
 unfold askRoom;exact ae3 (λ_=>Tl.mark (.inr rfl) (Tl.pure trivial)) λ_=>Tl.pure trivial
def xe(g:m.Ok)(j:kS P m.good t)(l c:Aq):Tl P m m.V (Instr.makeSlice t l c):=by
 unfold Instr.makeSlice;refine(aA t).bind λu p=>?_;cases u<;>first|exact ae0|skip
 rename_i b;refine(gI l).bind λl _=>(gI c).bind λc _=>(cT b).bind λi _=>?_;dsimp only;have k:∀{s:String}{γ:Type}(f:γ->Sem Aq),Tl P m m.V ((runtimePanic (.error s):Sem γ)>>=f):=λf=>(cn (Q:=λ_=>False) (.inl ⟨_,rfl⟩)).bind λ_ h=>h.elim;refine ae3 (λ_=>?_) λ_=>?_
 .refine ae3 (λ_=>k _) λ_=>ae3 (λ_=>k _) λ_=>?_;exact Tl.choose λn=>k _
 refine(sK _).bind λ_ _=>(bQ b).bind λs _=>?_;have d:∀e:Array Aq,(∀x,x∈(Array.range ((IntKind.i64.wrap c).toNat*s)).map (λi=>e[i%e.size]!)->m.V x)->Tl P m m.V (do
  let a<-newRow b ((Array.range ((IntKind.i64.wrap c).toNat*s)).map (λi=>e[i%e.size]!))
  pure (.slice a (IntKind.i64.wrap l).toNat (IntKind.i64.wrap c).toNat)):=λe h=>(mG b h).bind λa q=>Tl.pure (g.sc _ rfl)
 by_cases o:(IntKind.i64.wrap c).toNat*s=0
 .rw[ZC o];refine d #[] ?_;rw[o];simp
 rw[Zr o];exact(mF g (rT j p)).bind λz j=>d z.cells (nP g j _)
end
end T
namespace T
open Go.Conc
variable{args:Array Aq}{l:Nat}{u:E1}
section
variable{P:E2}{m:Md}{α β:Type}
def O0(b:m.Ok){ts:Array E1}(a:Ad P ts)(u:E1)(args:Array Aq):Tl P m m.V (Builtin.len_ ts u args):=by
 unfold Builtin.len_;unfold Ad at a;cases c:ts[0]? with
 |none=>exact ae0
 |some t=>
  rw[c]at a;cases f:args[0]? with
  |none=>exact ae0
  |some x=>
   refine(aA t).bind λd e=>?_;simp only[e]at a;(cases d<;>first|(cases a;done)|skip);all_goals(cases x<;>first|exact ae0|exact Tl.pure (b.sc (goInt _) rfl))
def Lu(a:m.Ok)(x y:Aq):Tl P m m.V (Builtin.max2 x y):=by
 unfold Builtin.max2;split
 .exact Tl.pure (a.sc _ rfl)
 .split
  .exact Tl.choose λn=>Tl.pure (a.sc _ rfl)
  .exact Tl.pure (a.sc _ rfl)
  .exact Tl.pure (a.sc _ rfl)
  exact Tl.pure (a.sc _ rfl)
 .unfold Op.stringOp;exact Tl.pure (a.sc _ rfl)
 .exact ae1 sM
 .exact ae1 sM
 exact ae0
def OZ(b:m.Ok){ts:Array E1}(h:∀v,v∈args->m.V v):Tl P m m.V (Builtin.max_ ts u args):=by
 unfold Builtin.max_;have a:∀v,v∈args.toList->m.V v:=λv c=>h v (aaC.1 c);generalize args.toList=l at a;cases l with
 |nil=>exact ae0
 |cons x l=>
  dsimp only;have d:=a x sM;clear a;induction l generalizing x with
  |nil=>exact Tl.pure d
  |cons y l e=>
   rw[acX];exact(Lu b x y).bind λz f=>e z f
def we(a:Es)(n:Nat)(w:AK)(es:Array Nc):∃b,(Builtin.holdsCells a n).runT P w es=(.ok b w,es):=by
 show∃b,((match w.shape? a.block with|some (_,c)=>(Pure.pure (a.spot.isNone&&a.off+n<=c):Sem Bool)|none=>Pure.pure false)).runT P w es=_;cases w.shape? a.block<;>exact⟨_,rfl⟩
def sU(size k:Nat)(base:Option Es)(x:Aq):Sem Bool:=match x with
 |.slice (some b) _ _=>do pure (!(<-Builtin.holdsCells b (k*size))||base.any (·.block==b.block))
 |_=>pure false
def xN(size n k:Nat)(base:Option Es)(x:Aq)(w:AK)(es:Array Nc):∃b,(Builtin.mayShare size n k base x).runT P w es=(.ok b w,es):=by
 have fin:∀es,∃b,(sU size k base x).runT P w es=(.ok b w,es):=by
  intro es;unfold sU;split
  .rename_i b _ _;obtain⟨r,hr⟩:=we (P:=P) b (k*size) w es;rw[gj,hr];exact⟨_,rfl⟩
  exact⟨_,rfl⟩
 have gate:∀(b:Bool)es,∃r,(if(!b) then(pure true:Sem Bool)else sU size k base x).runT P w es=(.ok r w,es):=by
  intro b es;cases b
  .exact⟨_,rfl⟩
  exact fin es
 cases base with
 |none=>exact gate true es
 |some a=>
  obtain⟨r,hr⟩:=we (P:=P) a (n*size) w es;have key:Builtin.mayShare size n k (some a) x=(Builtin.holdsCells a (n*size)>>=λr=>Go.frozen (a.add (n/2*size))>>=λz=>if(!(r&&!z)) then Pure.pure true else sU size k (some a) x):=by
   unfold Builtin.mayShare sU;rfl
  rw[key,gj,hr];exact gate (r&&!w.frozen? (a.add (n/2*size))) es
def yG(x:Aq):Tl P m (λ_=>True) (Builtin.lenOf x):=by
 cases x<;>first|exact Tl.pure trivial|exact ae0
def nH(d:m.Ok)(size n:Nat)(x:Aq):Tl P m (λcs=>∀c,c∈cs->m.V c) (Builtin.firstCells size n x):=by
 cases x<;>first|exact ae0|skip
 .refine Tl.pure ?_;intro c e;obtain⟨b,_,rfl⟩:=ac3.1 e;exact d.sc _ rfl
 rename_i a l c;cases a with
 |none=>exact Tl.pure sM
 |some a=>exact ku _ _ 0 #[] sM
def qM(a:m.Ok){z:Aq}(b:m.V z)(n:Nat):∀c,c∈Builtin.zeroCells z.cells n->m.V c:=nP a b _
def E5(w:m.Ok){ts:Array E1}(D:ts[0]?.all (kS P m.good)):Tl P m m.V (Builtin.append_ ts u args):=by
 unfold Builtin.append_;cases E:ts[0]? with
 |none=>exact ae0
 |some q=>
 have A:kS P m.good q:=by rw[E]at D;exact D
 cases O:args[0]? with
 |none=>exact ae0
 |some s=>
 cases R:args[1]? with
 |none=>exact ae0
 |some x=>
 refine(aA q).bind λd I=>?_;cases d<;>first|exact ae0|skip
 rename_i g;cases s<;>first|exact ae0|skip
 rename_i base j o;refine(bQ g).bind λsize _=>?_;have F:∀{s:String}{γ:Type}(f:γ->Sem Aq),Tl P m m.V ((runtimePanic (.error s):Sem γ)>>=f):=λf=>(cn (Q:=λ_=>False) (.inl ⟨_,rfl⟩)).bind λ_ h=>h.elim;have B:∀(e:Bool)(n:Nat),Tl P m (λcs=>∀c,c∈cs->m.V c) (if(!e) then Builtin.firstCells size n x else if n*size=0 then pure #[]else do pure (Builtin.zeroCells (<-zeroValue g).cells n)):=λe n=>
  ae3 (λ_=>nH w size n x) λ_=>ae3 (λ_=>Tl.pure sM) λ_=>(mF w (rT A I)).bind λz D=>Tl.pure (qM w D n)
 have y:∀(e:Bool)(n:Nat),Tl P m m.V (do
  let newCap<-choose (.appendCap (j+n) o g)
  askRoom (newCap*(<-typeInfo g).bytes)
  let old<-Builtin.firstCells size j (.slice base j o)
  let p<-(if(!e) then Builtin.firstCells size n x else if n*size=0 then pure #[]else do pure (Builtin.zeroCells (<-zeroValue g).cells n))
  let r:=Builtin.zeroCells (<-zeroValue g).cells (newCap-(j+n))
  pure (.slice (<-newRow g (old++p++r)) (j+n) newCap)):=λe n=>
  Tl.choose λS=>(cT g).bind λi _=>(sK _).bind λ_ _=>(nH w size j _).bind λold K=>(B e n).bind λp G=>(mF w (rT A I)).bind λz H=>(mG g (by
   intro c t;rcases aby.1 t with t|t
   .rcases aby.1 t with t|t
    .exact K c t
    exact G c t
   exact qM w H _ c t)).bind λa T=>Tl.pure (w.sc _ rfl)
 have main:∀(e:Bool)(n:Nat),Tl P m m.V (
  if j+n<=o then do
   let p<-(if(!e) then Builtin.firstCells size n x else if n*size=0 then pure #[]else do pure (Builtin.zeroCells (<-zeroValue g).cells n))
   if let some a:=base then storeCells (a.add (j*size)) p.toList
   pure (.slice base (j+n) o)
  else do
   if((j+n:Nat):Int)>IntKind.i64.max/\(e\/(<-typeInfo g).bytes=0)then runtimePanic (.error "growslice: len out of range")
   if Builtin.nextslicecap (j+n) o*(<-typeInfo g).bytes>2^48 then(if e then runtimePanic (.error "growslice: len out of range")else do
    if !(<-Builtin.mayShare size j n base x)then mark .noRoom
    unsupported (.resourceLimit "append: a slice or a string whose bytes no memory bears"))
   let newCap<-choose (.appendCap (j+n) o g)
   askRoom (newCap*(<-typeInfo g).bytes)
   let old<-Builtin.firstCells size j (.slice base j o)
   let p<-(if(!e) then Builtin.firstCells size n x else if n*size=0 then pure #[]else do pure (Builtin.zeroCells (<-zeroValue g).cells n))
   let r:=Builtin.zeroCells (<-zeroValue g).cells (newCap-(j+n))
   pure (.slice (<-newRow g (old++p++r)) (j+n) newCap)):=by
  intro e n;refine ae3 (λ_=>?_) λ_=>?_
  .refine(B e n).bind λp G=>?_;cases base with
   |none=>exact Tl.pure (w.sc _ rfl)
   |some a=>exact(jJ _ _ 0 λc t=>G c (aaC.1 t)).bind λ_ _=>Tl.pure (w.sc _ rfl)
  refine(cT g).bind λi _=>ae3 (λ_=>F _) λ_=>(cT g).bind λi _=>?_;refine ae3 (λ_=>?_) λ_=>y e n;refine Tl.bind (Q:=λ_=>False) ?_ λ_ h=>h.elim;cases e with
  |true=>exact cn (.inl ⟨_,rfl⟩)
  |false=>
   refine ae2 (λJ v U C es=>.inl ⟨.unsupported (.resourceLimit "append: a slice or a string whose bytes no memory bears"),?_,.inr ⟨_,rfl,λb h=>by cases h⟩⟩);obtain⟨b,L⟩:=xN (P:=P) size j n base x J C;show((Builtin.mayShare size j n base x>>=λb=>_).runT P J C).1=_;rw[gj,L];cases b<;>rfl
 cases M:ts[1]? with
 |none=>exact(yG x).bind λn _=>main false n
 |some N=>
  refine(aA N).bind λd _=>?_;cases d with
  |int k=>exact(gI x).bind λl _=>ae3 (λ_=>F _) λ_=>(cT g).bind λi _=>ae3 (λ_=>Tl.choose λk=>F _) λ_=>main true (IntKind.i64.wrap l).toNat
  |_=>exact(yG x).bind λn _=>main false n
def yD(s:String)(args:Array Aq):Tl P m (λ_=>True) (Extern.MathBitsCarry.three s args):=by
 unfold Extern.MathBitsCarry.three;obtain⟨l⟩:=args
 match l with
 |[x,y,c]=>
  refine(gI c).bind λc _=>?_;have a:Tl P m (λ_=>True) (do pure ((<-asInt x).toNat,(<-asInt y).toNat,c.toNat):Sem (Nat×Nat×Nat)):=
   (gI x).bind λx _=>(gI y).bind λy _=>Tl.pure trivial
  exact ae3 (λ_=>Tl.lost (.inr ⟨_,rfl,λb h=>by cases h⟩)) λ_=>a
 |[]|[_]|[_,_]|_::_::_::_::_=>exact ae0
def Hv(c:m.Ok)(a b:Nat):m.V (Extern.MathBitsCarry.pair a b):=(c.tup _).2 (by
 intro v d;simp only[aaX,ZM,ZG,aaV]at d;rcases d with rfl|rfl<;>exact c.sc _ rfl)
def Dy(k:IntKind)(a:Es):Tl P m m.V (Extern.Atomic.read (.int k) a):=(Tl.load λv b=>Tl.pure b:Tl P m m.V (Go.load a .atomic)).bind λv b=>by
 split
 .exact ae3 (λ_=>Tl.pure b) λ_=>ae1 sM
 .exact Tl.pure b
 .exact Tl.pure b
 exact ae1 sM
inductive uq:(Array Aq->Sem Aq)->Prop
 |add:uq add64Entry
 |sub:uq sub64Entry
 |load:uq (Extern.Atomic.loadT (.int .u32))
 |store:uq Extern.Atomic.storeT
 |or:uq (Extern.Atomic.update (Op.intBits .or) .u32 false)
def HG(b:m.Ok){e:Array Aq->Sem Aq}(d:uq e)(h:∀v,v∈args->m.V v):Tl P m m.V (e args):=by
 cases d with
 |add=>exact(yD _ _).bind λr _=>Tl.pure (Hv b _ _)
 |sub=>exact(yD _ _).bind λr _=>Tl.pure (Hv b _ _)
 |load=>
  unfold Extern.Atomic.loadT;obtain⟨l⟩:=args
  match l with
  |[a]=>exact(jV a).bind λa c=>Dy _ _
  |[]|_::_::_=>exact ae0
 |store=>
  unfold Extern.Atomic.storeT;obtain⟨l⟩:=args
  match l with
  |[a,v]=>exact(jV a).bind λa c=>Tl.store (h v sM) (Tl.pure ((b.tup _).2 sM))
  |[]|[_]|_::_::_::_=>exact ae0
 |or=>
  unfold Extern.Atomic.update;obtain⟨l⟩:=args
  match l with
  |[a,y]=>exact(jV a).bind λa c=>(Dy _ _).bind λold f=>(gI _).bind λ_ _=>(gI y).bind λ_ _=>Tl.store (b.sc _ rfl) (Tl.pure f)
  |[]|[_]|_::_::_::_=>exact ae0
def nN(P:E2)(a:Nat->Bool):Prop:=∀f,a f->∃fn,P.funcs[f]?=some fn/\(fn.name== "runtime.NumGoroutine")=false/\
 (fn.body.isSome\/(fn.body=none/\Extern.findNext fn=none/\∃e,Extern.find fn=some e/\uq e))
def rp(P:E2)(m:Md):Next->Prop
 |.value v=>m.V v
 |.skip=>True
 |.enter f args=>m.good f/\(∀a,a∈args->m.V a)/\∃fn c,P.funcs[f]?=some fn/\fn.body=some c
 |.round l f d b e=>m.GL l/\(∀v,v∈d->m.V v)/\m.okc f b/\m.okc f e
 |_=>False
def Dyn(m:Md):Prop:=∀fn a b,m.V (.func fn a b)->(∃f,fn=.func f/\m.good f/\(∀v,v∈a->m.V v)/\∀v,v∈b->m.V v)\/∃l,fn=.yield l/\a=#[]/\b=#[]/\m.GL l
def qP(i:m.Ok)(j:nN P m.good){f:Nat}(d:m.good f)(g:∀a,a∈args->m.V a):Tl P m (rp P m) (callFunc f args):=by
 obtain⟨fn,h,k,b⟩:=j f d;unfold callFunc;refine Tl.bind (Q:=λp=>p=P) (.program (.pure rfl)) ?_;rintro p e1;rw[e1];simp only[h,k];rcases b with b|⟨b,n,e,o,q⟩
 .have r:fn.body.isNone=false:=by cases w:fn.body<;>simp_all
  simp only[r];obtain⟨c,s⟩:=aeg.1 b;exact Tl.pure ⟨d,g,fn,c,h,s⟩
 simp only[b,n,o];refine Tl.mark (.inl ⟨f,rfl⟩) ?_;show Tl P m (rp P m) (e args>>=λv=>pure (Next.value v));exact(HG i q g).bind λv t=>Tl.pure t
def iZ(h:m.GL l):Tl P m (λr=>m.OKo (.loop r)) (Instr.getLoop l):=by
 refine Tl.getObj h (λo a=>?_) λo a=>by rcases a with rfl|⟨t,rfl⟩<;>exact⟨_,rfl,.inl ⟨_,rfl⟩⟩
 cases o<;>first|exact Tl.pure a|exact ae0
def yy:∀(l:List (Tmp×Aq))(a:Array Aq),(∀v,v∈a->m.V v)->(∀p,p∈l->m.V p.2)->∀v,v∈l.foldl (λa(p:Tmp×Aq)=>a.setIfInBounds p.1 p.2) a->m.V v
 |[],a,h,_=>h
 |p::l,a,h,c=>yy l _ (λv d=>by
  obtain⟨j,b⟩:=aaF.1 d;rcases gi b with⟨_,rfl⟩|b
  .exact c p sM
  exact h v (ZS b)) λq e=>c q (by simp[e])
def HD(h:m.GL l)(e:∀a,a∈args->m.V a):Tl P m (rp P m) (Instr.yield l args):=(iZ h).bind λr b=>by
 dsimp only;refine ae3 (λ_=>ae0) λ_=>Tl.pure ⟨h,?_,b.2.1,b.2.2.1⟩;rw[<-adb];refine yy _ _ b.1 λp c=>?_;rw[aaC]at c;obtain⟨j,d⟩:=aaF.1 c;rw[Array.getElem?_zip_eq_some]at d;exact e _ (ZS d.2)
def vn(i:m.Ok)(j:nN P m.good)(k:Dyn m){f:Aq}(n:m.V f)(e:∀a,a∈args->m.V a):Tl P m (rp P m) (Deferred.ofValue f args>>=λd=>invoke d.target d.args):=by
 cases f<;>first|exact ae0|exact cn (.inr (.inl rfl))|skip
 rename_i fn a b;rcases k fn a b n with⟨g,rfl,o,p,q⟩|⟨l,rfl,rfl,rfl,h⟩
 .show Tl P m _ (callFunc g ((a++args)++b));refine qP i j o λv c=>?_;rcases aby.1 c with c|c
  .rcases aby.1 c with c|c
   .exact p v c
   exact e v c
  exact q v c
 show Tl P m _ (Instr.yield l (#[]++args));rw[ad9];exact HD h e
def BF(c:m.Ok)(e:nN P m.good){g:Nat}(f:m.good g)(h:∀a,a∈args->m.V a):Tl P m (rp P m) (Deferred.ofValue (.func (.func g) #[] #[]) args>>=λd=>invoke d.target d.args):=by
 show Tl P m _ (callFunc g ((#[]++args)++#[]));refine qP c e f λv b=>?_;rw[Array.append_empty,ad9]at b;exact h v b
end
section
variable(P:E2)(good gl:Nat->Bool)(dyn:Bool)
def opT:Operand->Bool
 |.tmp _=>true
 |.const v=>cvc good v
 |.global g=>gl g
 |.func f=>good f
def UD:BinOp->E1->Bool
 |.eql,t|.neq,t=>CY P 8 t
 |_,_=>true
def A9:Operand->Bool
 |.func f=>good f
 |x=>dyn&&opT good gl x
def j1:Op->Bool
 |.move x|.assign x|.box _ x|.load _ x|.nilCheck x|.unOp _ _ x|.extract x _=>opT good gl x
 |.pick c a b=>opT good gl c&&opT good gl a&&opT good gl b
 |.alloc t=>nO P good t
 |.build t ps=>nO P good t&&ps.all λp=>opT good gl p.2
 |.buildSlice t _ ps=>kS P good t&&ps.all λp=>opT good gl p.2
 |.store _ a v=>opT good gl a&&opT good gl v
 |.binOp op t x y _=>UD P op t&&opT good gl x&&opT good gl y
 |.convert s d x=>isInt P s&&isInt P d&&opT good gl x
 |.makeFunc (.func f) a b=>good f&&a.all (opT good gl)&&b.all (opT good gl)
 |.makeSlice t l c=>kS P good t&&opT good gl l&&opT good gl c
 |.slice _ x e g h=>opT good gl x&&e.all (opT good gl)&&g.all (opT good gl)&&h.isNone
 |.fieldAddr s x f=>opT good gl x&&rR P s f
 |.indexAddr _ x i|.index _ x i=>opT good gl x&&opT good gl i
 |.panic x=>opT good gl x
 |.call {callee:=.value f,args, ..}=>A9 good gl dyn f&&args.all (opT good gl)
 |.call {callee:=.builtin .append,args,argTypes}=>argTypes[0]?.all (kS P good)&&args.all (opT good gl)
 |.call {callee:=.builtin .len,args,argTypes}=>Ad P argTypes&&args.all (opT good gl)
 |.call {callee:=.builtin .max,args, ..}=>args.all (opT good gl)
 |_=>false
end
section
variable{P:E2}{m:Md}{gl:Nat->Bool}{dyn:Bool}
def lI:∀(l:List FieldStep)(t:E1)(x:Option Aq),Tl P m (λ_=>True) (followBlind l t x)
 |[],t,x=>Tl.pure trivial
 |s::b,t,x=>by
  unfold followBlind;have c:=λt x=>lI b t x;refine(aA _).bind λu _=>?_;cases u<;>first|exact ae0|skip
  rename_i a _;dsimp only;cases a[s.index]? with
  |none=>exact ae0
  |some f=>
   dsimp only;split<;>first|exact Tl.pure trivial|exact c _ _|exact ae0|exact(lG _ _ _).bind λ_ _=>c _ _
def qN:∀(n:Nat)(t:E1)(v:Aq)(s:String),Tl P m (λ_=>True) (nilAhead n t v s)
 |0,_,_,_=>Tl.pure trivial
 |n+1,t,v,s=>by
  unfold nilAhead;have a:=λt v=>qN n t v s;refine(cT t).bind λi _=>?_;cases i.methods.find? (·.name==s)with
  |none=>exact ae0
  |some mt=>
   refine(lI _ _ _).bind λr _=>?_;cases r with
   |error r=>exact Tl.pure trivial
   |ok r=>
    obtain⟨b,x⟩:=r;dsimp only;(split<;>first|exact a _ _|exact Tl.pure trivial|exact ae0|skip);refine(aA _).bind λu _=>?_;split<;>exact Tl.pure trivial
def GV(hm:m.Ok)(hG:nN P m.good)(hd:dyn->Dyn m){ρ:Operand->Aq}(hA:∀x,opT m.good gl x->m.V (ρ x))(hF:∀f,ρ (.func f)=.func (.func f) #[] #[]){o:Oper}(ho:j1 P m.good gl dyn o.op):Tl P m (rp P m) (Lk ρ o):=by
 have vd:∀{s:Sem Aq},Tl P m m.V s->Tl P m (rp P m) (do pure (.value (<-s))):=λh=>h.bind λa h=>Tl.pure h;have all:∀{xs:Array Operand},xs.all (opT m.good gl)->∀v,v∈xs.map ρ->m.V v:=λh v hv=>by
  obtain⟨q,hq,rfl⟩:=ac3.1 hv;exact hA q (ZY.1 h q hq)
 have parts:∀{ps:Array (Nat×Operand)},(ps.all λp=>opT m.good gl p.2)->∀p,p∈(ps.map λ(i,x)=>(i,ρ x))->m.V p.2:=λh p hp=>by
  obtain⟨q,hq,rfl⟩:=ac3.1 hp;exact hA q.2 (ZY.1 h q hq)
 obtain⟨dst,op,type,pos,after,guard⟩:=o;unfold Lk;dsimp only at ho vd⊢;cases op<;>simp only[j1,aab]at ho<;>first|cases ho;done|(try dsimp only)
 case move x=>exact Tl.pure (hA x ho)
 case assign x=>exact Tl.pure (hA x ho)
 case pick c a b=>
  refine(vr _).bind λt _=>Tl.pure ?_;cases t
  .exact hA b ho.2
  exact hA a ho.1.2
 case alloc e=>
  refine vd ?_;unfold Instr.alloc;exact(mF hm ho).bind λz hz=>(pN hm e hz).bind λa ha=>Tl.pure (hm.sc _ rfl)
 case box e x=>exact vd ((pN hm e (hA x ho)).bind λa ha=>Tl.pure (hm.sc _ rfl))
 case build t ps=>exact vd (HJ hm ho.1 (parts ho.2))
 case buildSlice t n ps=>exact vd (uI hm ho.1 (parts ho.2))
 case load t a=>exact vd ((gG _).bind λa ha=>sI hm a t)
 case store t a v=>exact((gG _).bind λa ha=>yE hm a t (hA v ho.2)).bind λ_ _=>Tl.pure trivial
 case nilCheck x=>
  have hv:=hA x ho;split
  .exact cn (.inr (.inl rfl))
  .exact cn (.inr (.inl rfl))
  .exact cn (.inr (.inl rfl))
  .rename_i heq;rw[heq]at hv;split
   .exact cn (.inr (.inl rfl))
   .refine gg ((qN _ _ _ _).bind λr _=>ae3 (λ_=>ae1 sM) λ_=>?_);exact Tl.pure hv
   exact Tl.pure hv
  exact Tl.pure hv
 case binOp op t x y yt=>
  refine vd ((BJ op t x y _ _).bind λ_ _=>HK hm op t _ _ λh=>?_);rcases h with rfl|rfl<;>exact ho.1.1
 case unOp op t x=>exact vd (HE hm op _)
 case convert s d x=>
  obtain⟨⟨hs,hd⟩,hx⟩:=ho;unfold isInt at hs hd;split at hs<;>first|cases hs;done|skip
  split at hd<;>first|cases hd;done|skip
  exact vd (BL hm asT asT _)
 case makeFunc fn a b=>
  cases fn<;>simp only[j1,aab]at ho<;>first|cases ho;done|skip
  exact Tl.pure (hm.fn _ _ _ ho.1.1 (all ho.1.2) (all ho.2))
 case makeSlice t l c=>exact vd (xe hm ho.1.1 _ _)
 case slice t x lo hi mx=>
  have em:mx=none:=by cases mx with|none=>rfl|some y=>simp at ho
  subst em;exact vd (BA hm t _ _ _)
 case fieldAddr s x f=>
  obtain⟨hx,hf⟩:=ho;unfold rR at hf;split at hf<;>first|cases hf;done|skip
  split at hf<;>first|cases hf;done|skip
  split at hf<;>first|cases hf;done|skip
  exact vd (BH hm asT asT asT (by simpa using hf) _)
 case indexAddr t x i=>exact vd (BG hm t _ _)
 case index t x i=>exact vd (HH hm t (hA x ho.1) _)
 case extract x i=>exact vd (BI hm (hA x ho) i)
 case panic x=>
  refine vd ?_;unfold Instr.panic;split
  .exact Tl.panic
  .refine Tl.bind (Q:=λ_=>True) (s:=Instr.panicnil) ?_ λn _=>ae3 (λ_=>Tl.panic) λ_=>Tl.program ?_
   .refine Tl.env λr=>?_;cases r<;>first|exact ae0|exact Tl.program (Tl.pure trivial)
   (have he:∀t,Tl P m (λ_=>True) (elemOf t):=λt=>(aA t).bind λd _=>by cases d<;>first|exact ae0|exact Tl.pure trivial);exact(he _).bind λe _=>(pN hm e ((hm.agg #[]).2 (λc hc=>absurd hc (Array.not_mem_empty c)))).bind λr _=>Tl.panic
  exact ae0
 case call c=>
  obtain⟨callee,args,argTypes⟩:=c;cases callee with
  |invoke r mt=>simp only[j1]at ho;cases ho
  |value f=>
   simp only[j1,aab]at ho;cases f with
   |func g=>
    show Tl P m _ (Deferred.ofValue (ρ (.func g)) (args.map ρ)>>=λd=>invoke d.target d.args);rw[hF];exact BF hm hG ho.1 (all ho.2)
   |_=>
    simp only[A9,aab]at ho;exact vn hm hG (hd ho.1.1) (hA _ ho.1.2) (all ho.2)
  |builtin b=>
   cases b<;>first|(simp only[j1]at ho;cases ho;done)|skip
   .simp only[j1,aab]at ho;exact vd (E5 hm ho.1)
   .simp only[j1,aab]at ho;exact vd (O0 hm ho.1 _ _)
   simp only[j1]at ho;exact vd (OZ hm (all ho))
end
end T
namespace T
open Go.Conc
variable{a:Code}{args tmps:Array Aq}{b:Bool}{c fr fr':K0}{cs l l':List K0}{es:Array Nc}{f:FuncId}{fn:Func}{g gl':Ar}{j:Option Code}{v₁:AK}{x:Aq}
section
variable(P:E2)(good gl:Nat->Bool)(dyn:Bool)
def aG:Code->Bool
 |.skip|.ret|.exit _=>true
 |.region _ ops _=>ops.all λo=>j1 P good gl dyn o.op
 |.seq a b=>aG a&&aG b
 |.cond c a b=>opT good gl c&&aG a&&aG b
 |.block _ b|.loop b=>aG b
 |.rangeFunc f _ a b=>dyn&&opT good gl f&&aG a&&aG b
 |_=>false
end
section
variable(P:E2)(m:Md)(gl:Nat->Bool)(dyn:Bool)
def dp:Item->Prop
 |.code c=>aG P m.good gl dyn c
 |.inBlock _|.beginRound=>True
 |.inLoop b=>aG P m.good gl dyn b
 |.inRegion ops todo=>∀i,i∈todo->∀o,ops[i]?=some o->j1 P m.good gl dyn o.op
 |.inRangeFunc l|.endRangeFunc l=>m.GL l
 |_=>False
structure CF(fr:K0):Prop where
 isGood:∃fn,P.funcs[fr.fn]?=some fn
 tmps:∀v,v∈fr.tmps->m.V v
 items:∀it,it∈fr.todo->dp P m gl dyn it
 defers:∀d,d∈fr.defers->∃r,d={target:=.collected r,args:=#[]}/\m.GL r
 kind:fr.kind=.normal
 round:∀l,fr.roundOf=some l->m.GL l
structure Cx:Prop where
 ok:m.Ok
 g:nN P m.good
 code:∀f fn c,m.good f->P.funcs[f]?=some fn->fn.body=some c->aG P m.good gl dyn c
 dy:dyn->Dyn m
 okc:∀f c,m.okc f c↔aG P m.good gl dyn c/\∃fn,P.funcs[f]?=some fn
end
section
variable{P:E2}{m:Md}{gl:Nat->Bool}{dyn:Bool}{tl:List Item}{wl v:AK}{main:Bool}
def CF.todo(h:CF P m gl dyn fr){k:List Item}(e:∀d,d∈k->dp P m gl dyn d):CF P m gl dyn {fr with todo:=k}:=⟨h.isGood,h.tmps,e,h.defers,h.kind,h.round⟩
def CF.mode(h:CF P m gl dyn fr){md:FrameMode}:CF P m gl dyn {fr with mode:=md}:=⟨h.isGood,h.tmps,h.items,h.defers,h.kind,h.round⟩
def CF.finish(h:CF P m gl dyn fr)(D:m.V x):CF P m gl dyn (fr.finish x):=by
 obtain⟨fn,tmps,todo,w,mode,A,s⟩:=fr;have z:=h.items;simp only at z;rcases todo with _|⟨B,k⟩
 .exact h
 have C:∀n,n∈k->dp P m gl dyn n:=λn p=>z _ (aai _ p);have r:=z B (ZJ ..);have o:∀q:Item,dp P m gl dyn q->∀n,n∈q::k->dp P m gl dyn n:=λq r n p=>(ZM.1 p).elim (λe=>e▸r) (C n);cases B with
 |inRegion ops l=>
  cases l with
  |nil=>exact h
  |cons i t=>
   refine⟨h.isGood,?_,o (.inRegion ops t) (λj u=>r j (aai _ u)),h.defers,h.kind,h.round⟩;simp only[Frame.finish];cases(ops[i]?).bind (·.dst)with
   |none=>exact h.tmps
   |some d=>
    intro y E;obtain⟨j,u⟩:=aaF.1 E;rcases gi u with⟨_,rfl⟩|u
    .exact D
    exact h.tmps y (ZS u)
 |inRangeFunc l=>exact h.todo (o (.endRangeFunc l) r)
 |beginRound=>exact h.todo C
 |call=>exact r.elim
 |_=>first|exact r.elim|exact h
def END:Item:=.code (.refuse "")
def FP(P:E2)(m:Md)(gl:Nat->Bool)(dyn:Bool)(tl:List Item)(b:Bool)(fr fr':K0):Prop:=
 ∃fn tmps front d mode e t h,CF P m gl dyn ⟨fn,tmps,front,d,mode,.normal,e⟩/\((t=[]/\h=[])\/(t=[END]/\e=none/\h=tl))/\(b->front≠[])/\fr=⟨fn,tmps,front++t,d,mode,.normal,e⟩/\fr'=⟨fn,tmps,front++h,d,mode,.normal,e⟩
def FP.of(h:CF P m gl dyn fr):FP P m gl dyn tl false fr fr:=by
 obtain⟨fn,tmps,todo,e,mode,i,d⟩:=fr;have k:=h.kind;simp only at k;subst k;exact⟨fn,tmps,todo,e,mode,d,[],[],h,.inl ⟨rfl,rfl⟩,sM,sM,sM⟩
def FP.finish(h:FP P m gl dyn tl true fr fr')(y:m.V x):FP P m gl dyn tl false (fr.finish x) (fr'.finish x):=by
 obtain⟨fn,tmps,front,d,mode,e,t,n,r,o,q,rfl,rfl⟩:=h;have p:=r.finish y;cases front with
 |nil=>exact absurd rfl (q rfl)
 |cons s k=>
  have u:=r.items s (ZJ ..);cases s with
  |inRegion ops l=>
   cases l with
   |nil=>exact⟨fn,tmps,_,d,mode,e,t,n,p,o,sM,rfl,rfl⟩
   |cons i w=>exact⟨fn,_,_,d,mode,e,t,n,p,o,sM,rfl,rfl⟩
  |inRangeFunc l=>exact⟨fn,tmps,_,d,mode,e,t,n,p,o,sM,rfl,rfl⟩
  |beginRound=>exact⟨fn,tmps,_,d,mode,e,t,n,p,o,sM,rfl,rfl⟩
  |_=>first|exact u.elim|exact⟨fn,tmps,_,d,mode,e,t,n,p,o,sM,rfl,rfl⟩
def FP.raise(h:FP P m gl dyn tl b fr fr')(e:List PanicEntry):FP P m gl dyn tl false (fr.raise e) (fr'.raise e):=by
 obtain⟨fn,tmps,front,d,mode,i,t,k,n,o,p,rfl,rfl⟩:=h;cases mode<;>exact⟨fn,tmps,front,d,_,i,t,k,n.mode,o,sM,rfl,rfl⟩
inductive FPs(P:E2)(m:Md)(gl:Nat->Bool)(dyn:Bool)(tl:List Item):List K0->List K0->Prop
 |nil:FPs P m gl dyn tl [] []
 |cons {fr fr':K0} {l l':List K0}:FP P m gl dyn tl true fr fr'->FPs P m gl dyn tl l l'->FPs P m gl dyn tl (fr::l) (fr'::l')
def wX(m:Md)(c:K0)(cs:List K0)(gl' g:Ar):Prop:=
 (∃x,m.V x/\gl'=G (c0.finish x) []/\g=G (c.finish x) cs)\/∃d,gl'=G {c0 with mode:=.panicking d} []/\reg g
def wW(P:E2)(m:Md)(gl:Nat->Bool)(dyn:Bool)(tl:List Item)(cs:List K0)(gl' g:Ar):Prop:=
 ∃fr fr' l l',FP P m gl dyn tl false fr fr'/\FPs P m gl dyn tl l l'/\gl'=G fr (l++[c0])/\g=G fr' (l'++cs)
def oi(h:wX m c cs gl' g)(w:AK):∃o w' es,KC P true gl' w=.ended o w' es:=by
 rcases h with⟨x,_,rfl,_⟩|⟨d,rfl,_⟩
 .exact⟨_,_,_,by simp[G,c0,Frame.finish,KC,stepG.exec];exact⟨rfl,rfl,rfl⟩⟩
 exact⟨_,_,_,by simp[G,c0,KC,unwind,callDeferred];exact⟨rfl,rfl,rfl⟩⟩
def mu(P:E2)(m:Md)(gl:Nat->Bool)(dyn:Bool)(tl:List Item)(c:K0)(cs:List K0)(x y:GStep)(wl v:AK):Prop:=
 (∃o w es,x=.ended o w es)\/
 ∃d h i g' v' es,x=.go d h i/\y=.go g' v' es/\(wW P m gl dyn tl (c::cs) d g'\/wX m c cs d g')/\Kept m wl v h v'/\∀e,e∈es->EvT m.Dd v' e
def Hl(wl v:AK)(y:GStep):Prop:=∀j q,Win World.drawn y v j->wl.tape (wl.drawn+j) q=v.tape (v.drawn+j) q
section
variable{α:Type}{Q:α->Prop}{s:Sem α}
def iR{y:GStep}(t:Tl P m Q s)(u:Tr m wl v)(w:∀b,(wl:Nat)<=b->m.GL b)(z:Hl wl v y)
 (A:∀g' v' es,y=.go g' v' es->reg g'->(dt (s.runT P v #[]).1).drawn<=v'.drawn):
 (∃a i v' o n,s.runT P wl #[]=(.ok a i,o)/\s.runT P v #[]=(.ok a v',n)/\Q a/\Kept m wl v i v'/\∀e,e∈n->e∈(#[]:Array Nc)\/EvT m.Dd v' e)\/
 (∃p i v' o n,s.runT P wl #[]=(.halt (.panic p) i,o)/\s.runT P v #[]=(.halt (.panic p) v',n)/\Kept m wl v i v'/\∀e,e∈n->e∈(#[]:Array Nc)\/EvT m.Dd v' e)\/
 ∃h i o,s.runT P wl #[]=(.halt h i,o)/\ot h:=by
 rcases t.run wl v #[] #[] u w (λj q B=>z j q (jR (λg' v' es C D=>A g' v' es C D) B))with⟨a,i,v',n,e1,e2,q,k,r⟩|⟨p,i,v',n,e1,e2,k,r⟩|⟨h,i,e1,e2⟩
 .obtain⟨d,e1⟩:=fst_eq e1;exact .inl ⟨a,i,v',d,n,e1,e2,q,k,r⟩
 .obtain⟨d,e1⟩:=fst_eq e1;exact .inr (.inl ⟨p,i,v',d,n,e1,e2,k,r⟩)
 obtain⟨d,e1⟩:=fst_eq e1;exact .inr (.inr ⟨h,i,d,e1,e2⟩)
end
def fV{n:Nat}{fn:FuncId}(h:∀e,e∈es->e∈(#[]:Array Nc)\/EvT m.Dd n e):∀e,e∈seen P fn es->EvT m.Dd n e:=
 λe d=>(h e (oI d)).elim (λh=>by simp at h) id
section
variable{fr:K0}{cs csl:List K0}{s:Sem Next}{w w':AK}{es:Array Nc}
def pF(e:fr.kind=.normal)(i:∀d r s k,fr.todo≠.call d true r s::k)(h:s.runT P w #[]=(.ok (.enter f args) w',es)):stepG.apply P true fr cs none s w=.go (G (Frame.enter P f args .normal) (fr::cs)) w' (seen P fr.fn es):=by
 unfold stepG.apply;simp only[aba];rw[h];simp only[e];simp[GStep.after,G]
def rk{l:Nat}{b:Code}(d:fr.kind=.normal)(h:s.runT P w #[]=(.ok (.round l f tmps a b) w',es)):stepG.apply P true fr cs none s w=.go (G (Frame.round l f tmps a b .normal) (fr::cs)) w' (seen P fr.fn es):=by
 unfold stepG.apply;simp only[aba];rw[h];simp only[d];simp[GStep.after,G]
def Hx(d:m.Ok){a:Array Aq}(h:∀v,v∈a->m.V v)(t:Nat):m.V (a.getD t C0):=by
 rw[aay];cases e:a[t]? with
 |none=>exact mB d
 |some x=>exact h x (ZS e)
def AV(i:Cx P m gl dyn){f:Nat}(n:m.good f)(o:∀a,a∈args->m.V a){c:Code}(h:P.funcs[f]?=fn)(k:fn.body=c):CF P m gl dyn (Frame.enter P f args .normal):=by
 refine⟨⟨fn,h⟩,?_,?_,by simp[Frame.enter],rfl,by simp[Frame.enter]⟩
 .intro x d;simp only[Frame.enter]at d;rcases aby.1 d with d|d
  .exact o x d
  rw[acw]at d;rw[d.2];exact mB i.ok
 intro p e;simp only[Frame.enter,h,acy,k,ZR,aag]at e;subst e;exact i.code f fn c n h k
def mf(D:Cx P m gl dyn)(q:FP P m gl dyn tl true fr fr')(J:(∀d r s k,fr.todo≠.call d true r s::k)/\∀d r s k,fr'.todo≠.call d true r s::k)(z:FPs P m gl dyn tl l l')(K:Tl P m (rp P m) s)(L:Tr m wl v)(M:∀b,(wl:Nat)<=b->m.GL b)
 (N:Hl wl v (stepG.apply P true fr' (l'++c::cs) none s v)):mu P m gl dyn tl c cs (stepG.apply P true fr (l++[c0]) none s wl) (stepG.apply P true fr' (l'++c::cs) none s v) wl v:=by
 have i:fr.kind=.normal:=by obtain⟨_,_,_,_,_,_,_,_,_,_,_,rfl,_⟩:=q;rfl
 have o:fr'.kind=.normal:=by obtain⟨_,_,_,_,_,_,_,_,_,_,_,_,rfl⟩:=q;rfl
 have O:fr'.fn=fr.fn:=by obtain⟨_,_,_,_,_,_,_,_,_,_,_,rfl,rfl⟩:=q;rfl
 rcases iR K L M N λg' v' es Q R=>(ld Q R).1 with⟨n,t,v',A,F,e1,e2,E,u,e⟩|⟨p,t,v',A,F,e1,e2,u,e⟩|⟨h,t,A,e1,S⟩
 .cases n<;>first|exact E.elim|skip
  .exact .inr ⟨_,_,_,_,_,_,jF i e1,jF o e2,.inl ⟨_,_,l,l',q.finish E,z,rfl,rfl⟩,u,fV e⟩
  .exact .inr ⟨_,_,_,_,_,_,kZ i e1,kZ o e2,.inl ⟨_,_,l,l',q.finish (mB D.ok),z,rfl,rfl⟩,u,fV e⟩
  .obtain⟨G,T,fn,U,H,y⟩:=E;exact .inr ⟨_,_,_,_,_,_,pF i J.1 e1,pF o J.2 e2,.inl ⟨_,_,fr::l,fr'::l',.of (AV D G T H y),.cons q z,rfl,rfl⟩,u,fV e⟩
  obtain⟨G,H,y,I⟩:=E;have y:=(D.okc _ _).1 y;have I:=(D.okc _ _).1 I;refine .inr ⟨_,_,_,_,_,_,rk i e1,rk o e2,.inl ⟨_,_,fr::l,fr'::l',.of ⟨y.2,H,?_,by simp[Frame.round],rfl,?_⟩,.cons q z,rfl,rfl⟩,u,fV e⟩
  .intro V B;simp only[Frame.round,ZM,ZG,aaV]at B;rcases B with rfl|rfl|rfl
   .exact y.1
   .trivial
   exact I.1
  intro l' C;simp only[Frame.round,Zt]at C;exact C▸G
 .exact .inr ⟨_,_,_,_,_,_,jG i e1,jG o e2,.inl ⟨_,_,l,l',q.raise _,z,rfl,rfl⟩,u,fV e⟩
 exact .inl (um (w':=t) (by rw[e1]) S)
end
def xf(n:Cx P m gl dyn){fn:Nat}{ps:Array Tmp}{b:Code}{e:Option Nat}(q:∃f,P.funcs[fn]?=some f)(s:∀v,v∈tmps->m.V v)(w:aG P m.good gl dyn a)(y:aG P m.good gl dyn b)(k:∀l,e=some l->m.GL l):
 Tl P m (λp=>m.GL p.1/\∀d,d∈p.2->∃r,d={target:=.collected r,args:=#[]}/\m.GL r) (Instr.enterLoop fn tmps ps a b e):=by
 have t:=(n.okc fn a).2 ⟨w,q⟩;have u:=(n.okc fn b).2 ⟨y,q⟩;unfold Instr.enterLoop;cases e with
 |some l=>exact(iZ (k l rfl)).bind λr h=>Tl.new (o:=.loop _) ⟨s,t,u,sM,h.2.2.2.2⟩ λz i=>Tl.pure ⟨i,sM⟩
 |none=>exact Tl.new (o:=.deferred _) (.inl rfl) λr k=>Tl.new (o:=.loop _) ⟨s,t,u,sM,k⟩ λz i=>Tl.pure ⟨i,by simp;exact k⟩
def uJ{l:Nat}(h:m.GL l):Tl P m (λ_=>True) (Instr.beginRound l):=(iZ h).bind λr d=>by
 refine Tl.setObj (o:=.loop _) h ⟨d.1,d.2.1,d.2.2.1,d.2.2.2.1,d.2.2.2.2⟩ ?_;show Tl P m _ (match r.state with|.ready=>_|.done=>_|.busy=>_|.exhausted=>_);cases r.state
 .exact Tl.pure trivial
 all_goals exact cn (.inl ⟨_,rfl⟩)
def yH(e:Cx P m gl dyn){l:Nat}(h:m.GL l)(i:∀c,j=some c->aG P m.good gl dyn c):Tl P m m.V (Instr.endRound l j):=(iZ h).bind λr d=>by
 refine Tl.setObj (o:=.loop _) h ⟨d.1,d.2.1,d.2.2.1,λc k=>?_,d.2.2.2.2⟩ (Tl.pure (e.ok.sc _ rfl));exact(e.okc _ _).2 ⟨i c k,((e.okc _ _).1 d.2.1).2⟩
def BK(e:Cx P m gl dyn){l:Nat}(h:m.GL l):Tl P m (λj=>∀c,j=some c->aG P m.good gl dyn c) (Instr.endLoop l):=(iZ h).bind λr d=>by
 dsimp only;refine ae3 (λ_=>?_) λ_=>?_
 .exact(cn (Q:=λ_=>False) (.inl ⟨_,rfl⟩)).bind λ_ h=>h.elim
 exact Tl.setObj (o:=.loop _) h ⟨d.1,d.2.1,d.2.2.1,d.2.2.2.1,d.2.2.2.2⟩ (Tl.pure λc i=>((e.okc _ _).1 (d.2.2.2.1 c i)).1)
def ru{r:Nat}(h:m.GL r):Tl P m (λds=>ds=[]) (Instr.takeDeferred r):=by
 refine Tl.getObj h (λo d=>?_) λo d=>by rcases d with rfl|⟨t,rfl⟩<;>exact⟨_,rfl,.inl ⟨_,rfl⟩⟩
 cases o<;>first|exact ae0|skip
 rename_i ds;rcases d with rfl|rfl
 .exact Tl.setObj (o:=.deferred _) h (.inr rfl) (Tl.pure rfl)
 exact ae0
def BD(e:m.Ok)(h:∀v,v∈tmps->m.V v):Tl P m (m.V) (results fn tmps):=by
 unfold results;refine(Dz (Q:=m.V) (λr=>?_) fn.results).bind λi d=>Tl.pure ?_
 .cases r with
  |tmp t=>exact Tl.pure (Hx e h t)
  |cell a t=>exact(jV _).bind λa _=>sI e a t
 split
 .exact d _ sM
 exact(e.tup _).2 d
def wH(d:fr.kind=.normal)(e:fr'.kind=.normal)(i:FPs P m gl dyn tl l l')(k:m.V x)(w w':AK):
 ∃gl' g',doReturn P true fr (l++[c0]) none x w=.go gl' w/\doReturn P main fr' (l'++c::cs) none x w'=.go g' w'/\(wW P m gl dyn tl (c::cs) gl' g'\/wX m c cs gl' g'):=by
 cases i with
 |nil=>exact⟨_,_,a7 d _,a7 e _,.inr (.inl ⟨x,k,rfl,rfl⟩)⟩
 |cons h i=>exact⟨_,_,a7 d _,a7 e _,.inl ⟨_,_,_,_,h.finish k,i,rfl,rfl⟩⟩
def Is{m:Bool}(d:fr.kind=.normal){y:K0}{w:AK}{g':Ar}{v':AK}(h:doReturn P m fr (y::cs) none x w=.go g' v' es):v'=w:=by
 rw[a7 d]at h;injection h with _ h _;exact h.symm
def Bh(l:List K0)(c:K0)(cs:List K0):∃y d,l++c::cs=y::d:=by cases l<;>exact⟨_,_,rfl⟩
def qv:Option Code->Bool
 |none|some .ret=>true
 |_=>false
def kF(P:E2)(m:Bool)(fr:K0)(j:Option Code)(cs:List K0)(w:AK):GStep:=match fr.roundOf with
 |none=>if qv j then .go (G {fr with mode:=.returning} cs) w else .ended (.stuck "exit, goto: no such block or label" (fr.pos P)) w
 |some l=>
  GStep.after (seen P fr.fn ((Instr.endRound l j).runT P w #[]).2) (match((Instr.endRound l j).runT P w #[]).1 with
  |.ok v w=>doReturn P m fr cs none v w
  |.halt _ w=>.ended (.stuck "range over a function: no such loop" (fr.pos P)) w)
def AT(I:Cx P m gl dyn){fn:Nat}{todo todo' front:List Item}{d:List Deferred}{mode:FrameMode}{p:Option Nat}{t u:List Item}(D:CF P m gl dyn ⟨fn,tmps,front,d,mode,.normal,p⟩)
 (z:(t=[]/\u=[])\/(t=[END]/\p=none/\u=tl))(A:todo=front++t)(B:todo'=front++u)(E:FPs P m gl dyn tl l l')(F:Tr m wl v)(J:∀b,(wl:Nat)<=b->m.GL b)(K:∀c,j=some c->aG P m.good gl dyn c)
 (L:Hl wl v (kF P main ⟨fn,tmps,todo',d,mode,.normal,p⟩ j (l'++c::cs) v)):mu P m gl dyn tl c cs (kF P true ⟨fn,tmps,todo,d,mode,.normal,p⟩ j (l++[c0]) wl) (kF P main ⟨fn,tmps,todo',d,mode,.normal,p⟩ j (l'++c::cs) v) wl v:=by
 cases p with
 |none=>
  have e:∀(m:Bool)(n:List Item)(cs:List K0)(w:AK),kF P m ⟨fn,tmps,n,d,mode,.normal,none⟩ j cs w=if qv j then .go (G ⟨fn,tmps,n,d,.returning,.normal,none⟩ cs) w else .ended (.stuck "exit, goto: no such block or label" (Frame.pos P ⟨fn,tmps,n,d,mode,.normal,none⟩)) w:=λ_ _ _ _=>rfl;rw[e,e];cases qv j with
  |true=>exact .inr ⟨_,_,_,_,_,_,rfl,rfl,.inl ⟨_,_,l,l',⟨fn,tmps,front,d,.returning,none,t,u,D.mode,z,sM,by rw[A],by rw[B]⟩,E,rfl,rfl⟩,.same F,sM⟩
  |false=>exact .inl ⟨_,_,_,rfl⟩
 |some i=>
  have e:∀(m:Bool)(n:List Item)(cs:List K0)(w:AK),kF P m ⟨fn,tmps,n,d,mode,.normal,some i⟩ j cs w=GStep.after (seen P fn ((Instr.endRound i j).runT P w #[]).2) (match((Instr.endRound i j).runT P w #[]).1 with
   |.ok v w=>doReturn P m ⟨fn,tmps,n,d,mode,.normal,some i⟩ cs none v w
   |.halt _ w=>.ended (.stuck "range over a function: no such loop" (Frame.pos P ⟨fn,tmps,n,d,mode,.normal,some i⟩)) w):=λ_ _ _ _=>rfl
  have M:=iR (yH I (D.round i rfl) K) F J L λg' v' es k _=>by
   rw[e]at k;obtain⟨Q,k,_⟩:=jm k;obtain⟨y,R,N⟩:=Bh l' c cs;rw[N]at k;generalize((Instr.endRound i j).runT P v #[]).1=r at k⊢;cases r with
   |ok x w=>simp only[dt];rw[Is rfl k];exact Zo _
   |halt h w=>cases k
  rw[e,e];rcases M with⟨x,o,v',q,C,e1,e2,O,H,s⟩|⟨x,o,v',q,C,e1,e2,H,s⟩|⟨h,o,q,e1,S⟩
  .rw[e1,e2];obtain⟨gl',g',d1,d2,d3⟩:=wH (main:=main) (fr:=⟨fn,tmps,todo,d,mode,.normal,some i⟩) (fr':=⟨fn,tmps,todo',d,mode,.normal,some i⟩) rfl rfl (c:=c) (cs:=cs) E O o v';simp only[d1,d2];exact .inr ⟨_,_,_,_,_,_,rfl,rfl,d3,H,λe k=>fV s e (by simpa using k)⟩
  .rw[e1];exact .inl ⟨_,_,_,rfl⟩
  rw[e1];exact .inl ⟨_,_,_,rfl⟩
def G6(O:Cx P m gl dyn)(Q:FP P m gl dyn tl b fr fr')(R:fr.mode≠.run)(C:FPs P m gl dyn tl l l')(E:Tr m wl v)(K:∀b,(wl:Nat)<=b->m.GL b)
 (L:Hl wl v (unwind P main fr' (l'++c::cs) none v)):mu P m gl dyn tl c cs (unwind P true fr (l++[c0]) none wl) (unwind P main fr' (l'++c::cs) none v) wl v:=by
 obtain⟨fn,tmps,front,z,mode,o,t,M,A,F,_,rfl,rfl⟩:=Q;obtain⟨f,N⟩:=A.isGood;cases z with
 |cons d ds=>
  obtain⟨r,rfl,S⟩:=A.defers d (ZJ ..);have e:∀(m:Bool)(n:List Item)(cs:List K0)(w:AK),unwind P m ⟨fn,tmps,n,{target:=.collected r,args:=#[]}::ds,mode,.normal,o⟩ cs none w=GStep.after (seen P fn ((Instr.takeDeferred r).runT P w #[]).2) (match((Instr.takeDeferred r).runT P w #[]).1 with
   |.ok calls w=>.go (G ⟨fn,tmps,n,calls++ds,mode,.normal,o⟩ cs) w
   |.halt _ w=>.ended (.stuck "the deferred calls of a range-over-func loop have been taken" (Frame.pos P ⟨fn,tmps,n,{target:=.collected r,args:=#[]}::ds,mode,.normal,o⟩)) w):=λ_ _ _ _=>rfl
  have H:=iR (ru S) E K L λg' v' es i _=>by
   rw[e]at i;obtain⟨T,i,_⟩:=jm i;generalize((Instr.takeDeferred r).runT P v #[]).1=q at i⊢;cases q with
   |ok x w=>injection i with _ h _;subst h;exact Zo _
   |halt h w=>cases i
  rw[e,e];rcases H with⟨x,k,v',p,B,e1,e2,I,D,u⟩|⟨x,k,v',p,B,e1,e2,D,u⟩|⟨h,k,p,e1,U⟩
  .rw[e1,e2];subst I;exact .inr ⟨_,_,_,_,_,_,rfl,rfl,.inl ⟨_,_,l,l',⟨fn,tmps,front,ds,mode,o,t,M,⟨A.isGood,A.tmps,A.items,λd V=>A.defers d (aai _ V),rfl,A.round⟩,F,sM,rfl,rfl⟩,C,rfl,rfl⟩,D,λe i=>fV u e (by simpa using i)⟩
  .rw[e1];exact .inl ⟨_,_,_,rfl⟩
  rw[e1];exact .inl ⟨_,_,_,rfl⟩
 |nil=>
  cases mode with
  |run=>exact absurd rfl R
  |panicking J=>
   have e:∀(m:Bool)(n:List Item)(y:K0)(cs:List K0)(w:AK),unwind P m ⟨fn,tmps,n,[],.panicking J,.normal,o⟩ (y::cs) none w=.go (G (y.raise J) cs) w:=by
    intro m n y cs w;simp[unwind,Frame.catches,N,G]
   cases C with
   |nil=>exact .inr ⟨_,_,_,_,_,_,e _ _ _ _ _,e _ _ _ _ _,.inr (.inr ⟨J,rfl,rfl⟩),.same E,sM⟩
   |cons h C=>exact .inr ⟨_,_,_,_,_,_,e _ _ _ _ _,e _ _ _ _ _,.inl ⟨_,_,_,_,h.raise _,C,rfl,rfl⟩,.same E,sM⟩
  |returning=>
   have e:∀(m:Bool)(n:List Item)(cs:List K0)(w:AK),unwind P m ⟨fn,tmps,n,[],.returning,.normal,o⟩ cs none w=GStep.after (seen P fn ((results f tmps).runT P w #[]).2) (match((results f tmps).runT P w #[]).1 with
    |.ok v w=>doReturn P m ⟨fn,tmps,n,[],.returning,.normal,o⟩ cs none v w
    |.halt (.stuck s) w=>.ended (.stuck s (Frame.pos P ⟨fn,tmps,n,[],.returning,.normal,o⟩)) w
    |.halt _ w=>.ended (.stuck "return: the result variables cannot be read" (Frame.pos P ⟨fn,tmps,n,[],.returning,.normal,o⟩)) w):=by
    intro m n cs w;simp only[unwind,N];rfl
   have H:=iR (BD O.ok A.tmps) E K L λg' v' es i _=>by
    rw[e]at i;obtain⟨T,i,_⟩:=jm i;obtain⟨y,X,W⟩:=Bh l' c cs;rw[W]at i;generalize((results f tmps).runT P v #[]).1=q at i⊢;cases q with
    |ok x w=>simp only[dt];rw[Is rfl i];exact Zo _
    |halt h w=>cases h<;>cases i
   rw[e,e];rcases H with⟨x,k,v',p,B,e1,e2,I,D,u⟩|⟨x,k,v',p,B,e1,e2,D,u⟩|⟨h,k,p,e1,U⟩
   .rw[e1,e2];obtain⟨gl',g',d1,d2,d3⟩:=wH (main:=main) (fr:=⟨fn,tmps,front++t,[],.returning,.normal,o⟩) (fr':=⟨fn,tmps,front++M,[],.returning,.normal,o⟩) rfl rfl (c:=c) (cs:=cs) C I k v';simp only[d1,d2];exact .inr ⟨_,_,_,_,_,_,rfl,rfl,d3,D,λe i=>fV u e (by simpa using i)⟩
   .rw[e1];exact .inl ⟨_,_,_,rfl⟩
   rw[e1];cases h<;>exact .inl ⟨_,_,_,rfl⟩
def mu.after{x y:GStep}{wl₁:AK}{d:Array Nc}(h:mu P m gl dyn tl c cs x y wl₁ v₁)(i:Kept m wl v wl₁ v₁)(p:∀e,e∈es->EvT m.Dd v₁ e):mu P m gl dyn tl c cs (GStep.after d x) (GStep.after es y) wl v:=by
 rcases h with⟨o,w,e,rfl⟩|⟨n,q,d,g',v',t,rfl,rfl,h,k,r⟩
 .exact .inl ⟨_,_,_,rfl⟩
 exact .inr ⟨_,_,_,_,_,_,rfl,rfl,h,i.trans k,λx s=>(aby.1 s).elim (λh=>(p x h).mono (by rw[i.thin.size,k.thin.size];exact k.grow)) (r x)⟩
def EZ{f:AK->Nat}{x:GStep}{v:AK}{j:Nat}(e:f v<=f v₁)(h:Win f x v₁ j):Win f (GStep.after es x) v (f v₁-f v+j):=by
 cases x<;>first|trivial|skip
 rename_i g' v' i;intro d;have:=h d;omega
def tR(id:Nat):∀(k k' t:List Item),exitTo id k=k'->exitTo id (k++t)=some (k'++t)
 |[],k',t,h=>by cases h
 |x::k,k',t,h=>by
  have zp:exitTo id k=k'->exitTo id (k++t)=some (k'++t):=tR id k k' t;cases x<;>simp only[exitTo,abJ]at h⊢<;>first|exact zp h|skip
  split at h
  .rename_i d;cases h;rw[ZC d]
  rename_i d;rw[Zr d];exact zp h
def tQ(id:Nat):∀(k:List Item),exitTo id k=none->exitTo id (k++[END])=none
 |[],_=>rfl
 |x::k,h=>by
  have zp:exitTo id k=none->exitTo id (k++[END])=none:=tQ id k;cases x<;>simp only[exitTo,abJ]at h⊢<;>first|exact zp h|skip
  split at h
  .cases h
  rename_i d;rw[Zr d];exact zp h
def Di(J:Cx P m gl dyn)(hP:FP P m gl dyn tl b fr fr')(hm:fr.mode=.run)(hL:FPs P m gl dyn tl l l')(hw:Tr m wl v)(hN:∀b,(wl:Nat)<=b->m.GL b)
 (S:Hl wl v (stepG.exec P main true fr' (l'++c::cs) none v)):mu P m gl dyn tl c cs (stepG.exec P true true fr (l++[c0]) none wl) (stepG.exec P main true fr' (l'++c::cs) none v) wl v:=by
 obtain⟨fn,tmps,front,n,mode,z,t,T,H,D,_,rfl,rfl⟩:=hP;simp only at hm;subst hm;have L:∀(td td':List Item)(ds:List Deferred)(x:Operand),Frame.eval ⟨fn,tmps,td,ds,.run,.normal,z⟩ x=Frame.eval ⟨fn,tmps,td',ds,.run,.normal,z⟩ x:=λtd td' ds x=>by cases x<;>rfl
 have hA:∀(td:List Item)(ds:List Deferred)x,opT m.good gl x->m.V (Frame.eval ⟨fn,tmps,td,ds,.run,.normal,z⟩ x):=by
  intro td ds x hx;cases x with
  |tmp t=>exact Hx J.ok H.tmps t
  |const v=>exact sx J.ok hx
  |global g=>exact J.ok.sc _ rfl
  |func f=>exact J.ok.fn f _ _ hx sM sM
 have A:∀{x y:GStep}(U:List Item),(∀it,it∈U->dp P m gl dyn it)->x=.go (G ⟨fn,tmps,U++t,n,.run,.normal,z⟩ (l++[c0])) wl #[]->y=.go (G ⟨fn,tmps,U++T,n,.run,.normal,z⟩ (l'++c::cs)) v #[]->mu P m gl dyn tl c cs x y wl v:=by
  intro x y U h I h2;exact .inr ⟨_,_,_,_,_,_,I,h2,.inl ⟨_,_,l,l',⟨fn,tmps,U,n,.run,z,t,T,H.todo h,D,sM,rfl,rfl⟩,hL,rfl,rfl⟩,.same hw,sM⟩
 have N:∀(j:Option Code),(∀c,j=some c->aG P m.good gl dyn c)->
  (∀cs w,stepG.exec P true true ⟨fn,tmps,front++t,n,.run,.normal,z⟩ cs none w=kF P true ⟨fn,tmps,front++t,n,.run,.normal,z⟩ j cs w)->
  (∀cs w,stepG.exec P main true ⟨fn,tmps,front++T,n,.run,.normal,z⟩ cs none w=kF P main ⟨fn,tmps,front++T,n,.run,.normal,z⟩ j cs w)->
  mu P m gl dyn tl c cs (stepG.exec P true true ⟨fn,tmps,front++t,n,.run,.normal,z⟩ (l++[c0]) none wl) (stepG.exec P main true ⟨fn,tmps,front++T,n,.run,.normal,z⟩ (l'++c::cs) none v) wl v:=by
  intro j hj e e';rw[e']at S;rw[e,e'];exact AT J H D rfl rfl hL hw hN hj S
 rcases front with _|⟨it,k⟩
 .rcases D with⟨rfl,rfl⟩|⟨rfl,rfl,rfl⟩
  .exact N none sM (λcs w=>by cases z<;>rfl) λcs w=>by cases z<;>rfl
  exact .inl ⟨_,_,_,rfl⟩
 have M:∀E,E∈k->dp P m gl dyn E:=λE W=>H.items _ (aai _ W);have X:dp P m gl dyn it:=H.items it (ZJ ..);have B:∀(it0:Item)(k:List Item),dp P m gl dyn it0->(∀E,E∈k->dp P m gl dyn E)->∀E,E∈it0::k->dp P m gl dyn E:=λit0 k X M E W=>(ZM.1 W).elim (λe=>e▸X) (M E);simp only[abJ]at S⊢;cases it with
 |inBlock id=>exact A k M rfl rfl
 |inRangeFunc l'=>exact .inl ⟨_,_,_,rfl⟩
 |inLoop b=>exact A (.code b::.inLoop b::k) (B (.code b) _ X (B (.inLoop b) _ X M)) rfl rfl
 |beginRound=>
  refine mf J ⟨fn,tmps,.beginRound::k,n,.run,z,t,T,H,D,sM,rfl,rfl⟩ ⟨sM,sM⟩ hL ?_ hw hN S;cases z with
  |none=>exact ae0
  |some l'=>exact(uJ (H.round l' rfl)).bind λ_ _=>Tl.pure trivial
 |endRangeFunc O=>
  have e:∀(m:Bool)(tl:List Item)(cs:List K0)(w:AK),stepG.exec P m true ⟨fn,tmps,.endRangeFunc O::(k++tl),n,.run,.normal,z⟩ cs none w=GStep.after (seen P fn ((Instr.endLoop O).runT P w #[]).2) (match((Instr.endLoop O).runT P w #[]).1 with
   |.ok jump w=>.go (G ⟨fn,tmps,(jump.map Item.code).toList++(k++tl),n,.run,.normal,z⟩ cs) w
   |.halt (.panic v) w=>.go (G (Frame.raise ⟨fn,tmps,.endRangeFunc O::(k++tl),n,.run,.normal,z⟩ [{v,recovered:=false}]) cs) w
   |.halt _ w=>.ended (.stuck "range over a function: no such loop" (Frame.pos P ⟨fn,tmps,.endRangeFunc O::(k++tl),n,.run,.normal,z⟩)) w):=λ_ _ _ _=>rfl
  have hT:=iR (BK J X) hw hN S λg' v' es K _=>by
   rw[e]at K;obtain⟨e',K,_⟩:=jm K;generalize((Instr.endLoop O).runT P v #[]).1=q at K⊢;cases q with
   |ok x w=>injection K with _ h _;subst h;exact Zo _
   |halt h w=>cases h<;>first|(injection K with _ h _;subst h;exact Zo _)|cases K
  rw[e,e];rcases hT with⟨x,Y,v',Z,es',e1,e2,hn,C,Q⟩|⟨x,Y,v',Z,es',e1,e2,C,Q⟩|⟨h,Y,Z,e1,hh⟩
  .rw[e1,e2];refine .inr ⟨_,_,_,_,_,_,rfl,rfl,.inl ⟨_,_,l,l',⟨fn,tmps,(x.map Item.code).toList++k,n,.run,z,t,T,H.todo ?_,D,sM,sM,sM⟩,hL,rfl,rfl⟩,C,λe K=>fV Q e (by simpa using K)⟩;cases x with
   |none=>exact M
   |some j=>exact B (.code j) _ (hn j rfl) M
  .rw[e1,e2];exact .inr ⟨_,_,_,_,_,_,rfl,rfl,.inl ⟨_,_,l,l',FP.raise (b:=false) ⟨fn,tmps,.endRangeFunc O::k,n,.run,z,t,T,H,D,sM,rfl,rfl⟩ _,hL,rfl,rfl⟩,C,λe K=>fV Q e (by simpa using K)⟩
  rw[e1];rcases hh with⟨s,rfl⟩|⟨u,rfl,_⟩<;>exact .inl ⟨_,_,_,rfl⟩
 |inRegion ops is=>
  rcases is with _|⟨i,F⟩
  .exact A k M rfl rfl
  cases R:((ops[i]?).map (Region.wanted · (yielded ops tmps))).getD false with
  |false=>
   have e:∀(m:Bool)(tl:List Item)(cs:List K0)(w:AK),stepG.exec P m true ⟨fn,tmps,.inRegion ops (i::F)::(k++tl),n,.run,.normal,z⟩ cs none w=.go (G (Frame.finish ⟨fn,tmps,.inRegion ops (i::F)::(k++tl),n,.run,.normal,z⟩ C0) cs) w #[]:=by
    intro m tl cs w;simp[stepG.exec,R,G]
   exact .inr ⟨_,_,_,_,_,_,e _ _ _ _,e _ _ _ _,.inl ⟨_,_,l,l',FP.finish ⟨fn,tmps,.inRegion ops (i::F)::k,n,.run,z,t,T,H,D,sM,rfl,rfl⟩ (mB J.ok),hL,rfl,rfl⟩,.same hw,sM⟩
  |true=>
   cases ho:ops[i]? with
   |none=>rw[ho]at R;simp at R
   |some o=>
    have e:∀(mn:Bool)(tl:List Item)(cs:List K0)(w:AK),stepG.exec P mn true ⟨fn,tmps,.inRegion ops (i::F)::(k++tl),n,.run,.normal,z⟩ cs none w=stepG.apply P true ⟨fn,tmps,.inRegion ops (i::F)::(k++tl),n,.run,.normal,z⟩ cs none (Lk (Frame.eval ⟨fn,tmps,[],n,.run,.normal,z⟩) o) w:=by
     intro mn tl cs w;rw[show Frame.eval ⟨fn,tmps,[],n,.run,.normal,z⟩=Frame.eval ⟨fn,tmps,.inRegion ops (i::F)::(k++tl),n,.run,.normal,z⟩from funext λx=>L _ _ _ x];have hop:j1 P m.good gl dyn o.op:=X i (ZJ ..) o ho;rw[ho]at R;simp only[aaJ,ZR]at R;simp only[stepG.exec,ho,aaJ,ZR,R,aba];unfold stepG.oper;simp only[Frame.oper?,ho];split
     .rename_i hq;rw[hq]at hop;cases hop
     rfl
    rw[e]at S;rw[e,e];exact mf J ⟨fn,tmps,.inRegion ops (i::F)::k,n,.run,z,t,T,H,D,sM,rfl,rfl⟩ ⟨sM,sM⟩ hL (GV J.ok J.g J.dy (hA _ _) (λ_=>rfl) (X i (ZJ ..) o ho)) hw hN S
 |code cd=>
  have I:aG P m.good gl dyn cd:=X;cases cd with
  |skip=>exact A k M rfl rfl
  |ret=>exact N (some .ret) (by rintro _⟨⟩;rfl) (λcs w=>by cases z<;>rfl) λcs w=>by cases z<;>rfl
  |seq a b=>
   simp only[aG,aab]at I;exact A (.code a::.code b::k) (B (.code a) _ I.1 (B (.code b) _ I.2 M)) rfl rfl
  |block id b=>exact A (.code b::.inBlock id::k) (B (.code b) _ I (B (.inBlock id) _ trivial M)) rfl rfl
  |loop b=>exact A (.code b::.inLoop b::k) (B (.code b) _ I (B (.inLoop b) _ I M)) rfl rfl
  |cond x a b=>
   simp only[aG,aab]at I;have ev:∀tl:List Item,Frame.eval ⟨fn,tmps,.code (.cond x a b)::(k++tl),n,.run,.normal,z⟩ x=Frame.eval ⟨fn,tmps,[],n,.run,.normal,z⟩ x:=λtl=>L _ _ _ _;by_cases hq:∃q,Frame.eval ⟨fn,tmps,[],n,.run,.normal,z⟩ x=.bool q
   .obtain⟨q,hq⟩:=hq;refine A (.code (if q then a else b)::k) (B (.code (if q then a else b)) _ ?_ M) (by simp only[stepG.exec,ev,hq];rfl) (by simp only[stepG.exec,ev,hq];rfl);cases q
    .exact I.2
    exact I.1.2
   refine .inl ?_;simp only[stepG.exec,ev];split
   .rename_i q hq';exact absurd ⟨q,hq'⟩ hq
   exact⟨_,_,_,rfl⟩
  |exit id=>
   cases hx:exitTo id k with
   |some k'=>
    have e:∀tl,exitTo id (k++tl)=some (k'++tl):=λtl=>tR id k k' tl hx;exact A k' (λit W=>M it (og hx it W)) (by simp only[stepG.exec,e];rfl) (by simp only[stepG.exec,e];rfl)
   |none=>
    rcases D with⟨rfl,rfl⟩|⟨rfl,rfl,rfl⟩
    ·(have e:exitTo id (k++[])=none:=by rw[ac6];exact hx);exact N (some (.exit id)) (by rintro _⟨⟩;rfl) (λcs w=>by simp only[abJ,stepG.exec,e];cases z<;>rfl) λcs w=>by simp only[abJ,stepG.exec,e];cases z<;>rfl
    have e:exitTo id (k++[END])=none:=tQ id k hx;refine .inl ?_;simp only[stepG.exec,e];exact⟨_,_,_,rfl⟩
  |region id ops draw=>
   cases draw with
   |false=>exact A (.inRegion ops (List.range ops.size)::k) (B (.inRegion ops (List.range ops.size)) _ (λ_ _ o ho=>ZY.1 I o (ZS ho)) M) rfl rfl
   |true=>
    have e:∀(m:Bool)(tl:List Item)(cs:List K0)(w:AK),stepG.exec P m true ⟨fn,tmps,.code (.region id ops true)::(k++tl),n,.run,.normal,z⟩ cs none w=.go (G ⟨fn,tmps,.inRegion ops (Region.schedule (P.follows .mixedOrders) ops (w.tape w.drawn (.order fn id)))::(k++tl),n,.run,.normal,z⟩ cs) {w with drawn:=w.drawn+1} #[]:=by
     intro m tl cs w;simp[G,stepG.exec,choose,Sem.run,Question.forced,Question.cut]
    have hans:wl.tape wl.drawn (.order fn id)=v.tape v.drawn (.order fn id):=by
     have:=S 0 (.order fn id) (by rw[e];unfold Win;intro _;simp);simpa using this
    refine .inr ⟨_,_,_,_,_,_,e _ _ _ _,e _ _ _ _,.inl ⟨_,_,l,l',⟨fn,tmps,.inRegion ops (Region.schedule (P.follows .mixedOrders) ops (wl.tape wl.drawn (.order fn id)))::k,n,.run,z,t,T,H.todo (B (.inRegion ops (Region.schedule (P.follows .mixedOrders) ops (wl.tape wl.drawn (.order fn id)))) _ (λ_ _ o ho=>ZY.1 I o (ZS ho)) M),D,sM,rfl,by rw[hans];rfl⟩,hL,rfl,rfl⟩,?_,sM⟩;exact⟨λb=>.refl hw (λ_ h=>h) (λ_ h=>h),hw.at _ _,rfl,rfl,ade _,show wl.drawn+1=wl.drawn+(v.drawn+1-v.drawn) by omega,Zo _,rfl,rfl⟩
  |rangeFunc f ps a b=>
   simp only[aG,aab]at I;have e:∀(m:Bool)(tl:List Item)(cs:List K0)(w:AK),stepG.exec P m true ⟨fn,tmps,.code (.rangeFunc f ps a b)::(k++tl),n,.run,.normal,z⟩ cs none w=GStep.after (seen P fn ((Instr.enterLoop fn tmps ps a b z).runT P w #[]).2) (match((Instr.enterLoop fn tmps ps a b z).runT P w #[]).1 with
    |.ok p w=>stepG.apply P true ⟨fn,tmps,.inRangeFunc p.1::(k++tl),p.2++n,.run,.normal,z⟩ cs none (do
     let d<-Deferred.ofValue (Frame.eval ⟨fn,tmps,[],[],.run,.normal,z⟩ f) #[.func (.yield p.1) #[] #[]]
     invoke d.target d.args) w
    |.halt _ w=>.ended (.stuck "range over a function: no such loop" (Frame.pos P ⟨fn,tmps,.code (.rangeFunc f ps a b)::(k++tl),n,.run,.normal,z⟩)) w):=by
    intro m tl cs w;have er:∀(td:List Item)(ds:List Deferred)(O:Nat),resolve (Frame.eval ⟨fn,tmps,td,ds,.run,.normal,z⟩) {callee:=.value f,args:=#[.const (.func (.yield O) #[] #[])],argTypes:=#[]} 0=Deferred.ofValue (Frame.eval ⟨fn,tmps,[],[],.run,.normal,z⟩ f) #[.func (.yield O) #[] #[]]:=by
     intro td ds O;rw[show Frame.eval ⟨fn,tmps,[],[],.run,.normal,z⟩ f=Frame.eval ⟨fn,tmps,td,ds,.run,.normal,z⟩ f by cases f<;>rfl];simp[resolve,Frame.eval]
    simp only[stepG.exec,er];rcases(Instr.enterLoop fn tmps ps a b z).runT P w #[]with⟨r,es⟩;cases r with
    |ok p w=>rfl
    |halt h w=>rfl
   have hT:=iR (xf J (ps:=ps) H.isGood H.tmps I.1.2 I.2 H.round) hw hN S λg' v' es K hr=>by
    rw[e]at K;obtain⟨e',K,_⟩:=jm K;generalize((Instr.enterLoop fn tmps ps a b z).runT P v #[]).1=q at K⊢;cases q with
    |ok x w=>exact Zz (oL P _ _ _).1 (ld K hr).1
    |halt h w=>cases K
   rw[e]at S;rw[e,e];rcases hT with⟨x,Y,v',Z,es',e1,e2,hn,C,Q⟩|⟨x,Y,v',Z,es',e1,e2,C,Q⟩|⟨h,Y,Z,e1,hh⟩
   .rw[e2]at S;rw[e1,e2];obtain⟨O,mark⟩:=x;have hF':CF P m gl dyn ⟨fn,tmps,.inRangeFunc O::k,mark++n,.run,.normal,z⟩:=⟨H.isGood,H.tmps,B (.inRangeFunc O) _ hn.1 M,λd hd=>(aci.1 hd).elim (hn.2 d) (H.defers d),rfl,H.round⟩;refine mu.after (mf J ⟨fn,tmps,.inRangeFunc O::k,mark++n,.run,z,t,T,hF',D,sM,rfl,rfl⟩ ⟨sM,sM⟩ hL ?_ C.thin (λb hb=>hN b (Zz C.grow hb)) ?_) C (fV Q)
    .refine vn J.ok J.g (J.dy I.1.1.1) (hA _ _ f I.1.1.2) ?_;intro v hv;simp only[aaX,ZM,ZG,aaV]at hv;subst hv;exact J.ok.yl _ hn.1
    intro j q hj;have:=S (v'.drawn-v.drawn+j) q (EZ C.drawn hj);rw[C.ltape,C.tape,C.ldrawn];rw[abY,this];have:=C.drawn;congr 1;omega
   .rw[e1];exact .inl ⟨_,_,_,rfl⟩
   rw[e1];exact .inl ⟨_,_,_,rfl⟩
  |_=>cases I
 |_=>exact X.elim
def tY(o:Cx P m gl dyn)(s:wW P m gl dyn tl (c::cs) gl' g)(p:Tr m wl v)(q:∀b,(wl:Nat)<=b->m.GL b)
 (k:Hl wl v (KC P main g v)):mu P m gl dyn tl c cs (KC P true gl' wl) (KC P main g v) wl v:=by
 obtain⟨fr,fr',l,l',n,r,rfl,rfl⟩:=s;have h:fr'.mode=fr.mode:=by obtain⟨_,_,_,_,_,_,_,_,_,_,_,rfl,rfl⟩:=n;rfl
 by_cases d:fr.mode=.run
 .have e:∀(m:Bool)(fr:K0)(cs:List K0)(w:AK),fr.mode=.run->KC P m (G fr cs) w=stepG.exec P m true fr cs none w:=by
   intro m fr cs w d;simp only[G,KC,d]
  rw[e _ _ _ _ (h.trans d)]at k;rw[e _ _ _ _ d,e _ _ _ _ (h.trans d)];exact Di o n d r p q k
 have e:∀(m:Bool)(fr:K0)(cs:List K0)(w:AK),fr.mode≠.run->KC P m (G fr cs) w=unwind P m fr cs none w:=by
  intro m fr cs w d;cases i:fr.mode with
  |run=>exact absurd i d
  |_=>simp only[G,KC,i]
 rw[e _ _ _ _ (by rw[h];exact d)]at k;rw[e _ _ _ _ d,e _ _ _ _ (by rw[h];exact d)];exact G6 o n d r p q k
end
end T
section
open Go.Conc Go.ConcN
def du(a b:AK):Prop:=b.heap=a.heap
def bk:Trans du:=⟨λ_=>rfl,λ_ _ _ h k=>k.trans h⟩
def mH(w:AK)(d:Nat):du w (w.at d):=rfl
def aK(H:Array Obj)(T:Nat->Question->Nat)(a:AK):AK:={a with heap:=H,tape:=T,drawn:=0}
def D1(a:Loc->Prop)(b:Nat->Prop)(v v':AK)(es:Array Nc):Prop:=(v:Nat)<=v'/\∀e∈es,Conc.EvL a v' e
def D2(b:Nat->Prop)(c a:AK)(es:Array Nc):Prop:=es=#[]
def D1.nil{a:Loc->Prop}{M:Nat->Prop}(v:AK):D1 a M v v #[]:=⟨Zo _,sM⟩
end
namespace T
open Go.Conc Go.ConcN
variable{M:Nat->Prop}{R:Aq->AK->Prop}{Sh:Loc->Prop}{a:Act}{b:Nat}{cs l l':List K0}{c₁ fr fr':K0}{fn:FuncId}{k:List Item}{v w0 w0l wl:AK}
section
variable{P:E2}{m:Md}{gl:Nat->Bool}{dyn:Bool}{tl:List Item}{wl v:AK}{main:Bool}
def Tr.self(h:Tr m wl v):Tr m wl wl:=by
 refine⟨rfl,λb o e=>⟨o,e,?_,λ_ _=>.inl rfl⟩,h.val,h.obj,h.dead,rfl,rfl⟩;obtain⟨g,_,f,_⟩:=h.blk _ _ e;cases f with
 |same d=>exact .same d
 |cells i j=>exact .cells (λ_ _ h=>h) (Zo _)
 |view=>exact .view
 |lost n=>exact .same trivial
def FP.self{b:Bool}(h:FP P m gl dyn tl b fr fr'):FP P m gl dyn [END] b fr fr:=by
 obtain⟨fn,e,front,d,mode,i,t,n,j,f,g,rfl,rfl⟩:=h;exact⟨fn,e,front,d,mode,i,t,t,j,f.elim (λh=>.inl ⟨h.1,h.1⟩) (λh=>.inr ⟨h.1,h.2.1,h.1⟩),g,rfl,rfl⟩
def FPs.self(h:FPs P m gl dyn tl l l'):FPs P m gl dyn [END] l l:=by
 induction h with
 |nil=>exact .nil
 |cons h _ d=>exact .cons h.self d
def tC(w:Cx P m gl dyn):∀(n:Nat)(fr:K0)(cs:List K0)(wl:AK)(fr':K0)(d:List K0)(w':AK),(∀b,(wl:Nat)<=b->m.GL b)->
 (wW P m gl dyn [END] [c0] (G fr cs) (G fr cs)\/wX m c0 [] (G fr cs) (G fr cs))->Tr m wl wl->runN P n (lone fr cs wl)=.next (lone fr' d w')->
 ∃l:Nat->Ar×AK,l 0=(G fr cs,wl)/\(∀i,i<n->∃es,KC P true (l i).1 (l i).2=.go (l (i+1)).1 (l (i+1)).2 es)/\l n=(G fr' d,w')
 |0,fr,cs,wl,fr',d,w',_,_,_,h=>by
  simp[runN,lone]at h;obtain⟨rfl,rfl,rfl⟩:=h;exact⟨λ_=>(G fr cs,wl),rfl,λi y=>absurd y oM,rfl⟩
 |n+1,fr,cs,wl,fr',d,w',z,C,D,h=>by
  simp only[runN]at h;rcases C with E|F
  .rcases tY (main:=true) w E D z (λ_ _ _=>rfl)with⟨o,r,es,g⟩|⟨j,p,s,g',v',es,e1,e2,A,B,_⟩
   .have:step P (lone fr cs wl)=.ended o r:=ac4 (by show(KC P true (G fr cs) wl).bare=_;rw[g];rfl);rw[this]at h;cases h
   rw[e1]at e2;injection e2 with g1 g2 _;subst g1 g2;have q:∃e f,j=G e f:=by
    rcases A with⟨f1,f2,l1,l2,_,_,t,_⟩|⟨x,_,t,_⟩|⟨L,t,_⟩<;>exact⟨_,_,t⟩
   obtain⟨e,f,rfl⟩:=q;have u:step P (lone fr cs wl)=.next (lone e f p):=step_lone_go (by show(KC P true (G fr cs) wl).bare=_;rw[e1];rfl);rw[u]at h;obtain⟨l,H,I,J⟩:=tC w n e f p fr' d w' (λb K=>z b (Zz B.grow K)) A B.thin h;refine⟨λi=>if i=0 then(G fr cs,wl)else l (i-1),rfl,λi y=>?_,by simp[J]⟩;cases i with
   |zero=>
    refine⟨s,?_⟩;simp only[aba,Z8,Nat.one_ne_zero,acd,adk,H];exact e1
   |succ i=>
    obtain⟨es,g⟩:=I i oM;refine⟨es,?_⟩;simp only[Nat.succ_ne_zero,acd,abt];exact g
  obtain⟨o,r,es,g⟩:=oi (P:=P) F wl;have:step P (lone fr cs wl)=.ended o r:=ac4 (by show(KC P true (G fr cs) wl).bare=_;rw[g];rfl);rw[this]at h;cases h
structure Did(m:Md)(w0l w0 wl v:AK):Prop where
 tr:Tr m wl v
 size:(w0:Nat)<=v
 stay:∀b,qI m w0l w0 wl v b
 tape:v.tape=w0.tape
 os:v.os=w0.os
 out:v.output=w0.output
def Did.block(h:Did m w0l w0 wl v)(e:Tr m w0l w0)(f:¬m.GL b)(d:b<w0)(g:wl.heap[b]?=w0l.heap[b]?):v.heap[b]?=w0.heap[b]?:=(h.stay b).same e h.tr f d g
def BW{w0l':AK}(e:w0l'.heap=w0l.heap)(h:qI m w0l' w0 wl v b):qI m w0l w0 wl v b:=
 ⟨λc t z d=>h.cells c t z (by rw[e];exact d),λf o g i=>by have:=h.odd f o (by rw[e];exact g) i;rw[e]at this;exact this⟩
def kW(J:Cx P m gl dyn)(K:∀b,w0.heap.size<=b->m.GL b){D:(Nat->Prop)->AK->AK->Array Nc->Prop}(V:∀M v v' es,v.heap.size<=v'.heap.size->(∀e,e∈es->EvT m.Dd v'.heap.size e)->D M v v' es)
{c:K0}(L:FP P m gl dyn tl false fr fr')(N:FPs P m gl dyn tl l l'){Fin:Ar->AK->Prop}{H:Array Obj}(f:∀T,Tr m (aK H T w0) w0)
 (u:∀T,∃fr₁ x w',Steps P (lone fr (l++[c0]) (aK H T w0)) (lone fr₁ x w')/\Fin (G fr₁ x) w')(M:Nat->Prop):
 an P main du D (λg _ v=>∃gl' wl,Fin gl' wl/\(wW P m gl dyn tl (c::cs) gl' g\/wX m c cs gl' g)/\Did m (aK H (λ_ _=>0) w0) w0 wl v) (G fr' (l'++c::cs)) M w0:=by
 let E:(Nat->Nat)->Ar->AK->Ar->(Nat->Prop)->AK->Prop:=λ_ gl' wl g _ v=>
  (wW P m gl dyn tl (c::cs) gl' g\/wX m c cs gl' g)/\Did m (aK H (λ_ _=>0) w0) w0 wl v
 refine qX (P:=P) E Fin (gl0:=G fr (l++[c0])) (wl0:=λT=>aK H T w0) ?_ ?_ ?_ ?_ ?_ ?_
 .intro T;obtain⟨fr₁,x,w',⟨n,y⟩,q⟩:=u T;have F:(aK H T w0).heap.size=w0.heap.size:=(f T).size.symm;obtain⟨p,W,ps,X⟩:=tC J n _ _ _ _ _ _ (by rw[F];exact K) (.inl ⟨fr,fr,l,l,L.self,N.self,rfl,rfl⟩) (f T).self y;exact⟨n,p,W,ps,by rw[X];exact q⟩
 .exact λT=>⟨rfl,rfl,rfl⟩
 .exact λT σ _=>⟨.inl ⟨fr,fr',l,l',L,N,rfl,rfl⟩,⟨f T,Zo _,λb=>BW (w0l:=aK H (λ_ _=>0) w0) (w0l':=aK H T w0) rfl (.refl (f T) (λ_ h=>h) (λ_ h=>h)),rfl,rfl,rfl⟩⟩
 .rintro σ gl' wl g M w v ⟨Y,j⟩ i;have A:v.heap=w.heap:=i.more;refine⟨Y,⟨⟨by rw[A];exact j.tr.size,by rw[A];exact j.tr.blk,j.tr.val,j.tr.obj,j.tr.dead,i.os.trans j.tr.os,i.out.trans j.tr.out⟩,by rw[A];exact j.size,λb=>?_,i.tape.trans j.tape,i.os.trans j.os,i.out.trans j.out⟩⟩;have:=j.stay b;exact⟨λc t z h=>by rw[A];exact this.cells c t z h,λZ o h y=>by rw[A];exact this.odd Z o h y⟩
 .exact λσ gl' wl g M w O q=>⟨gl',wl,q,O.1,O.2⟩
 rintro σ gl' wl g M v Q aa ab ⟨S|hd,s⟩ d ht _
 .have B:g.status=.running:=by
   obtain⟨_,_,_,_,_,_,_,rfl⟩:=S;rfl
  refine⟨B,?_⟩;rcases tY J S s.tr (λb hb=>K b (by have:=s.size;have:=s.tr.size;omega)) ht with⟨o,U,es,I⟩|⟨g1,U,e1,g',v',es,k1,k2,y,i,hev⟩
  .rw[I]at d;cases d
  rw[k1]at d;injection d with q1 q2 _;subst q1 q2;have C:reg g'=true:=by
   rcases y with⟨_,_,_,_,_,_,_,rfl⟩|⟨_,_,_,rfl⟩|⟨_,_,h⟩
   .rfl
   .rfl
   exact h
  have r:v.heap.size<=v'.heap.size:=by rw[s.tr.size,i.thin.size];exact i.grow
  refine⟨g',v',es,k2,C,V _ _ _ _ r hev,⟨y,⟨i.thin,Zz s.size r,λb=>(s.stay b).trans (i.stay b),i.tape.trans s.tape,i.os.trans s.os,i.out.trans s.out⟩⟩,i.ltape,i.ldrawn,?_⟩;have:=s.tr.size;have:=i.thin.size;have:=i.grow;omega
 obtain⟨o,U,es,I⟩:=oi (P:=P) hd wl;rw[I]at d;cases d
def nC(m:Md)(Sh:Loc->Prop):Prop:=∀l,Sh l->∃a,l=.cell a/\m.Dd a.block
def UC(g:nC m Sh){n:Nat}{e:Nc}(h:EvT m.Dd n e):Conc.EvL Sh n e:=by
 obtain⟨t,wr,s⟩:=e;rcases h with⟨mk,j,p⟩|⟨a,j,p,q⟩|⟨r,j,q⟩|j<;>simp only at j<;>subst j
 .rcases p with⟨f,rfl⟩|rfl
  .exact⟨λx d=>(by cases d),sM,sM,trivial⟩
  exact⟨λx d=>(by cases d),sM,sM,trivial⟩
 .refine⟨λx d o=>?_,sM,sM,q⟩;simp only[Go.ConcR.ofEvent_cell,MemAct.touch?,Zt]at d;subst d;obtain⟨a',i,u⟩:=g _ o;simp only[Loc.cell.injEq]at i;subst i;exact absurd u p
 .cases wr<;>cases s<;>refine⟨λx d o=>?_,sM,sM,q⟩<;>first
   |(cases d;done)
   |(simp only[MemAct.ofEvent,MemAct.touch?,Zt]at d;subst d;obtain⟨a',i,_⟩:=g _ o;cases i)
 cases wr<;>cases s<;>refine⟨λx d o=>?_,sM,sM,trivial⟩<;>
  (simp only[MemAct.ofEvent,MemAct.touch?,Zt]at d;subst d;obtain⟨a',i,_⟩:=g _ o;cases i)
def Nt(d:nC m Sh)(M:Nat->Prop)(v v':AK)(es:Array Nc)(h:(v:Nat)<=v')(f:∀e,e∈es->EvT m.Dd v' e):D1 Sh M v v' es:=
 ⟨h,λe g=>UC d (f e g)⟩
def dD(m:Md)(a:Act):Prop:=(∀v,v∈a.tmps->m.V v)/\∀d,d∈a.defers->∃r,d={target:=.collected r,args:=#[]}/\m.GL r
section
variable{Sh:Loc->Prop}{w0:AK}{H:Array Obj}{Stop:Ar->(Nat->Prop)->AK->Prop}
def piece(L:Cx P m gl dyn)(N:∀b,w0.heap.size<=b->m.GL b)(s:nC m Sh)(u:∃f,P.funcs[fn]?=some f){c:Code}(O:aG P m.good gl dyn c=true)(J:dD m a)
 (d:∀T,Tr m (aK H T w0) w0){R:Act->AK->Prop}(w:∀T,c.wp P (λe a' w'=>e=.normal/\R a' w') a (aK H T w0))
 (j:∀a' wl v M',R a' wl->dD m a'->Did m (aK H (λ_ _=>0) w0) w0 wl v->an P main du (D1 Sh) Stop (G ((base fn).at a' k) (c₁::cs)) M' v):
 an P main du (D1 Sh) Stop (G ((base fn).at a (.code c::k)) (c₁::cs)) M w0:=by
 have Q:FP P m gl dyn k false ((base fn).at a [.code c,END]) ((base fn).at a (.code c::k)):=
  ⟨fn,a.tmps,[.code c],a.defers,.run,none,[END],k,⟨u,J.1,(by intro S z;obtain rfl:=aag.1 z;exact O),J.2,rfl,sM⟩,.inr ⟨rfl,rfl,rfl⟩,sM,rfl,rfl⟩
 refine aen bk (kW (l:=[]) (l':=[]) (Fin:=λgl' wl=>∃a',gl'=G ((base fn).at a' [END]) [c0]/\R a' wl) L N (Nt s) Q .nil d (λT=>?_) M) ?_
 .obtain⟨e,a',w',⟨rfl,A⟩,n⟩:=w T (base fn) [END] [c0];exact⟨_,_,w',n,a',rfl,A⟩
 rintro g M' v⟨gl',wl,⟨a',rfl,A⟩,B,o⟩;rcases B with⟨fr,fr',l,l',C,D,e1,rfl⟩|E
 .have p:=aal (λg:Ar=>g.callers) e1;have h:=aal (λg:Ar=>g.frame) e1;simp only[G]at p h;cases D with
  |cons q U=>simp at p
  |nil=>
   obtain⟨fn',K,front,r,mode,V,t,W,i,F,_,rfl,rfl⟩:=C;simp only[Frame.at,base,Frame.mk.injEq]at h;obtain⟨rfl,rfl,I,rfl,rfl,_,rfl⟩:=h;rcases F with⟨rfl,rfl⟩|⟨rfl,_,rfl⟩
   .exfalso;rw[ac6]at I;have:=i.items END (by rw[<-I];exact aag.2 rfl);simp[END,dp,aG]at this
   have:front=[]:=by
    cases front with
    |nil=>rfl
    |cons x y=>simp at I
   subst this;exact j a' wl v M' A ⟨i.tmps,i.defers⟩ o
 exfalso;rcases E with⟨x,_,q,_⟩|⟨X,q,_⟩
 .have:=aal (λg:Ar=>g.callers.length) q;simp[G]at this
 have:=aal (λg:Ar=>g.callers.length) q;simp[G]at this
def call(u:Cx P m gl dyn)(w:∀b,(w0:Nat)<=b->m.GL b)(r:nC m Sh){f:FuncId}(z:m.good f=true){fn:Func}{n:Code}(o:P.funcs[f]?=some fn)(A:fn.body=some n){args:Array Aq}(B:∀v,v∈args->m.V v)
 (i:∀T,Tr m (aK H T w0) w0)(j:∀T,Bf P f args (aK H T w0) λe w'=>∃x,e=.returned x/\R x w')
 (p:∀x wl v M',R x wl->m.V x->Did m (aK H (λ_ _=>0) w0) w0 wl v->an P main du (D1 Sh) Stop (G (c₁.finish x) cs) M' v):
 an P main du (D1 Sh) Stop (G (Frame.enter P f args .normal) (c₁::cs)) M w0:=by
 have C:FP P m gl dyn [END] false (Frame.enter P f args .normal) (Frame.enter P f args .normal):=.of (AV u z B o A);refine aen bk (kW (l:=[]) (l':=[]) (Fin:=λgl' wl=>∃x,gl'=G (c0.finish x) []/\R x wl) u w (Nt r) C .nil i (λT=>?_) M) ?_
 .obtain⟨e,w',fr,⟨x,rfl,s⟩,d,_,h⟩:=j T [c0];have D:Steps P (lone (Frame.enter P f args .normal) [c0] (aK H T w0)) (lone fr [c0] w'):=d;exact⟨_,_,w',D.trans (.one (ab9 (cs:=[]) (c:=c0) h)),x,rfl,s⟩
 rintro g M' v⟨gl',wl,⟨x,rfl,s⟩,t,q⟩;rcases t with⟨fr,fr',l,l',E,F,e1,rfl⟩|⟨y,I,o,rfl⟩|⟨J,o,_⟩
 .exfalso;have:=aal (λg=>g.callers.length) e1;simp[G]at this
 .have:x=y:=by
   have:=aal (λg:Ar=>g.frame.tmps) o;simpa[G,c0,Frame.finish]using this
  subst this;exact p x wl v M' s I q
 exfalso;have:=aal (λg:Ar=>g.frame.mode) o;simp[G,c0,Frame.finish]at this
def tail(s:Cx P m gl dyn)(t:∀b,w0.heap.size<=b->m.GL b)(n:nC m Sh)(o:∃f,P.funcs[fn]?=some f)(u:∀q,q∈k->dp P m gl dyn q)(r:dD m a)
 (d:∀T,Tr m (aK H T w0) w0)(e:∀T,∃x w',Steps P (lone ((base fn).at a k) [c0] (aK H T w0)) (lone (c0.finish x) [] w')/\R x w')
 (h:∀x wl v M',R x wl->m.V x->Did m (aK H (λ_ _=>0) w0) w0 wl v->an P main du (D1 Sh) Stop (G (c₁.finish x) cs) M' v):
 an P main du (D1 Sh) Stop (G ((base fn).at a k) (c₁::cs)) M w0:=by
 have w:FP P m gl dyn [END] false ((base fn).at a k) ((base fn).at a k):=.of ⟨o,r.1,u,r.2,rfl,by simp[base,Frame.at]⟩;refine aen bk (kW (l:=[]) (l':=[]) (Fin:=λgl' wl=>∃x,gl'=G (c0.finish x) []/\R x wl) s t (Nt n) w .nil d (λT=>?_) M) ?_
 .obtain⟨x,w',i,z⟩:=e T;exact⟨_,_,w',i,x,rfl,z⟩
 rintro g M' v⟨gl',wl,⟨x,rfl,A⟩,p,j⟩;rcases p with⟨fr,fr',l,l',B,C,e1,rfl⟩|⟨y,D,i,rfl⟩|⟨E,i,_⟩
 .exfalso;have:=aal (λg=>g.callers.length) e1;simp[G]at this
 .have:x=y:=by
   have:=aal (λg:Ar=>g.frame.tmps) i;simpa[G,c0,Frame.finish]using this
  subst this;exact h x wl v M' A D j
 exfalso;have:=aal (λg:Ar=>g.frame.mode) i;simp[G,c0,Frame.finish]at this
end
end
end T
end Go.Proofs.YtldmbneckcjonaaDoor
