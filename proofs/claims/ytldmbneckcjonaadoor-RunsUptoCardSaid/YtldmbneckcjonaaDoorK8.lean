/- A part of the proof. -/
import Derived.Conc.WgGenN3
import Derived.Conc.WgWords
import Derived.Test.YtldmbneckcjonaaDoorK7
set_option linter.defProp false
set_option linter.unusedVariables false
set_option linter.unusedSimpArgs false
set_option maxRecDepth 100000
set_option maxHeartbeats 8000000
noncomputable section
namespace Go.Proofs.YtldmbneckcjonaaDoor
open Go renaming World->AK,Value->Aq,Goroutine->Ar,Calls->Bf,undef->C0,Addr->Es,TypeId->E1,Program->E2,stepG->KC,Frame->K0,execOp->Lk,bits->Na,Event->Nc
open Go.RowKit renaming Below->Np,wrap64->Nq
open Go.Proofs.Tryd
section
open Go.Conc Go.ConcN
variable{B g:Nat}{es:Array Nc}{l:Loc}{t:Trace}
def uu(t:Trace)(g:Nat)(l:Loc):Prop:=∀i a,touchAt t i=some a->a.loc=l->a.kind≠.atomic->Knows t g i
def uu.of(h:Perm t g l):uu t g l:=λi a b c _=>h i a b c
def uu.app{u:Trace}(h:uu t g l)(m:∀op∈u,∀b,op.act.touch?=some b->b.loc=l->b.kind≠.atomic->op.g=g):uu (t++u) g l:=by
 intro i a n f j;obtain⟨x,k,c⟩:=touch_of n;rcases aa4 k with⟨_,d⟩|⟨_,e⟩
 .exact(h i a (by rw[touchAt_of d];exact c) f j).app u
 have:=knows_own k
 rwa [m x e a c f j]at this
structure Dn where
 full:Nat->Loc->Prop
 read:Nat->Loc->Prop
 atm:Loc->Prop
 gp:Loc->Prop
structure Dn.Apart(T:Dn):Prop where
 ff:∀g g' l,T.full g l->T.full g' l->g=g'
 fr:∀g g' l,T.full g l->¬T.read g' l
 fa:∀g l,T.full g l->¬T.atm l
 fg:∀g l,T.full g l->¬T.gp l
 ra:∀g l,T.read g l->¬T.atm l
 rg:∀g l,T.read g l->¬T.gp l
 ag:∀l,T.atm l->¬T.gp l
def Dn.Ok(T:Dn)(g:Nat)(op:MemOp):Prop:=
 op.g=g/\∀x,op.act.touch?=some x->T.full g x.loc\/(T.read g x.loc/\x.write=false)\/(T.atm x.loc/\x.kind=.atomic)\/(T.gp x.loc/\x.kind≠.plain/\(x.kind=.said->g=0))
structure TI(T:Dn)(A:Nat->Prop)(t:Trace):Prop where
 quiet:Quiet T.gp t
 full:∀g,A g->∀l,T.full g l->Perm t g l
 read:∀g,A g->∀l,T.read g l->PermW t g l
 atm:∀g,A g->∀l,T.atm l->uu t g l
 nr:∀said,¬Race said t
section
variable{T T':Dn}{A A':Nat->Prop}{t u:Trace}{g:Nat}
def TI.app(j:T.Apart)(h:TI T A t)(m:∀op∈u,T.Ok g op)(w:∀op∈u,∀x,op.act.touch?=some x->A g):TI T A (t++u):=by
 refine⟨h.quiet.app λop d x y p=>?_,λg' k l f=>(h.full g' k l f).app λop d b n e=>?_,λg' k l f=>(h.read g' k l f).app λop d b n e s=>?_,
  λg' k l f=>(h.atm g' k l f).app λop d b n e q=>?_,λr=>noRace_append (h.nr r) (λop d=>(m op d).1) (λi a k op d b n o=>?_)⟩
 .rcases(m op d).2 x y with c|⟨c,_⟩|⟨c,_⟩|⟨_,z,C⟩
  .exact absurd p (j.fg _ _ c)
  .exact absurd p (j.rg _ _ c)
  .exact absurd p (j.ag _ c)
  exact⟨z,λe=>(m op d).1.trans (C e)⟩
 .rcases(m op d).2 b n with c|⟨c,_⟩|⟨c,_⟩|⟨c,_⟩
  .exact(m op d).1.trans (j.ff _ _ _ (e▸c) f)
  .exact absurd (e▸c) (j.fr _ _ _ f)
  .exact absurd (e▸c) (j.fa _ _ f)
  exact absurd (e▸c) (j.fg _ _ f)
 .rcases(m op d).2 b n with c|⟨_,c⟩|⟨c,_⟩|⟨c,_⟩
  .exact absurd f (j.fr _ _ _ (e▸c))
  .rw[c]at s;cases s
  .exact absurd (e▸c) (j.ra _ _ f)
  exact absurd (e▸c) (j.rg _ _ f)
 .rcases(m op d).2 b n with c|⟨c,_⟩|⟨_,c⟩|⟨c,_⟩
  .exact absurd f (j.fa _ _ (e▸c))
  .exact absurd f (j.ra _ _ (e▸c))
  .exact absurd c q
  exact absurd (e▸c) (j.ag _ f)
 have v:=w op d b n;rcases(m op d).2 b n with c|⟨c,s⟩|⟨c,q⟩|⟨c,q,p⟩
 .exact h.full g v _ c i a k o.1
 .exact h.read g v _ c i a k o.1 (o.2.2.1.resolve_right (by simp[s]))
 .refine h.atm g v _ c i a k o.1 λe=>?_;rcases o.2.2.2 with x|x|⟨_,x,_⟩
  .rw[e]at x;cases x
  .rw[q]at x;cases x
  rw[e]at x;cases x
 exact h.quiet.known c q p i a k o
def TI.turn(h:TI T A t)(f:∀g,A' g->A g)(k:∀l,T'.gp l->T.gp l)(m:∀g l,A' g->T'.full g l->T.full g l\/∀i a,touchAt t i=some a->a.loc≠l)
 (n:∀g l,A' g->T'.read g l->T.read g l\/T.full g l)(o:∀l,T'.atm l->T.atm l):TI T' A' t:=by
 refine⟨λi op x j p q=>h.quiet i op x j p (k _ q),λg b l d=>?_,λg b l d=>?_,λg b l d=>h.atm g (f g b) l (o l d),h.nr⟩
 .rcases m g l b d with c|c
  .exact h.full g (f g b) l c
  exact λi a j e=>absurd e (c i a j)
 rcases n g l b d with c|c
 .exact h.read g (f g b) l c
 exact .of (h.full g (f g b) l c)
def TI.fork{k:Nat}{x y:MemOp}(h:TI T A t)(s:A 0)(D:x.g=0/\x.act=.go k)(E:y.g=k/\y.act=.start)(F:Deaf t 0=0)(G:Deaf t k=0)
 (M:∀g,A' g->A g\/g=k)(N:∀l,T'.gp l->T.gp l)(v:∀l,T'.atm l->T.atm l)
 (O:∀g l,T'.full g l->(A g/\T.full g l)\/(g=k/\T.full 0 l))(P:∀g l,T'.read g l->(A g/\(T.read g l\/T.full g l))\/(g=k/\(T.read 0 l\/T.full 0 l))):TI T' A' (t++#[x,y]):=by
 have m:∀op∈#[x,y],∀b,op.act.touch?=some b->False:=by
  intro op c b f;simp only[aaX,ZM,ZG,aaV]at c;rcases c with rfl|rfl
  .rw[D.2]at f;cases f
  rw[E.2]at f;cases f
 have old:∀{i:Nat}{a:Touch},touchAt (t++#[x,y]) i=some a->touchAt t i=some a:=by
  intro i a v;obtain⟨z,Q,q⟩:=touch_of v;rcases aa4 Q with⟨_,H⟩|⟨_,I⟩
  .rw[touchAt_of H];exact q
  exact(m z I a q).elim
 have w:∀{i:Nat},Knows t 0 i->Knows (t++#[x,y]) k i:=λC=>fork_knows D E F G C;refine⟨λi op b d f R=>?_,λg n l o i a d e=>?_,λg n l o i a d e L=>?_,λg n l o i a d e C=>?_,λr=>?_⟩
 .rcases aa4 d with⟨_,J⟩|⟨_,K⟩
  .exact h.quiet i op b J f (N _ R)
  exact(m op K b f).elim
 .rcases O g l o with⟨p,j⟩|⟨rfl,j⟩
  .exact(h.full g p l j i a (old d) e).app _
  exact w (h.full 0 s l j i a (old d) e)
 .rcases P g l o with⟨p,j|j⟩|⟨rfl,j|j⟩
  .exact(h.read g p l j i a (old d) e L).app _
  .exact(h.full g p l j i a (old d) e).app _
  .exact w (h.read 0 s l j i a (old d) e L)
  exact w (h.full 0 s l j i a (old d) e)
 .rcases M g n with p|rfl
  .exact(h.atm g p l (v l o) i a (old d) e C).app _
  exact w (h.atm 0 s l (v l o) i a (old d) e C)
 have e:t++#[x,y]=(t++#[x])++#[y]:=by apply Array.ext';simp
 rw[e];refine noRace_append (g:=k) (noRace_append (g:=0) (h.nr r) (λop c=>by simp at c;rw[c];exact D.1) (λi a _ op c b f _=>(m op (by simp at c⊢;exact .inl c) b f).elim))
  (λop c=>by simp at c;rw[c];exact E.1) (λi a _ op c b f _=>(m op (by simp at c⊢;exact .inr c) b f).elim)
end
structure JI(Shun:Loc->Prop)(W:Nat->Prop)(t:Trace):Prop where
 kn:∀i a,touchAt t i=some a->a.loc.isMemory->Knows t 0 i\/(Shun a.loc/\a.kind=.atomic)\/∃g,W g/\t.g? i=some g/\t.counts i
 over:∀i g,t.g? i=some g->g≠0->t.counts i->(∃j,t.g? j=some 0/\HappensBefore t i j)\/W g
section
variable{Shun Shun':Loc->Prop}{W W':Nat->Prop}{t u:Trace}{g:Nat}
def JI.of_past(h:Past Shun B t):JI Shun W t:=⟨λi a c d=>(h.known i a c d).imp id .inl,λi g e b f=>.inl (h.over i g e b f)⟩
def JI.mono(h:JI Shun W t)(d:∀l,Shun l->Shun' l)(c:∀g,W g->W' g):JI Shun' W' t:=
 ⟨λi a e f=>(h.kn i a e f).imp id (Or.imp (And.imp (d _) id) λ⟨g,x,y⟩=>⟨g,c g x,y⟩),λi g j b k=>(h.over i g j b k).imp id (c g)⟩
def JI.app(h:JI Shun W t)(A:∀i a op,t.size<=i->(t++u)[i]?=some op->op.act.touch?=some a->a.loc.isMemory->op.g=0\/(Shun a.loc/\a.kind=.atomic)\/(W op.g/\(t++u).counts i))
 (C:∀op∈u,op.g=0\/W op.g\/op.act.touch?=none):JI Shun W (t++u):=by
 refine⟨λi a D v=>?_,λi g w e y=>?_⟩
 .obtain⟨x,d,f⟩:=touch_of D;rcases aa4 d with⟨k,m⟩|⟨p,_⟩
  .rcases h.kn i a (by rw[touchAt_of m];exact f) v with c|c|⟨g,c,q,h3⟩
   .exact .inl (c.app u)
   .exact .inr (.inl c)
   exact .inr (.inr ⟨g,c,by rw[g?_old k];exact q,(counts_old k).2 h3⟩)
  rcases A i a x p d f v with c|c|⟨c,q⟩
  .have:=knows_own d;rw[c]at this;exact .inl this
  .exact .inr (.inl c)
  exact .inr (.inr ⟨x.g,c,by simp[Trace.g?,d],q⟩)
 obtain⟨x,d,n⟩:=ZX.1 w;rcases aa4 d with⟨k,m⟩|⟨_,r⟩
 .rcases h.over i g (by rw[<-g?_old (u:=u) k];exact w) e ((counts_old k).1 y)with⟨j,hj,o⟩|c
  .have s:j<t.size:=by
    obtain⟨z,E,_⟩:=ZX.1 hj;exact lt_size_of_getElem? E
   exact .inl ⟨j,by rw[g?_old s];exact hj,hb_app u o⟩
  exact .inr c
 rcases C x r with c|c|c
 .exact absurd (n.symm.trans c) e
 .exact .inr (n▸c)
 obtain⟨b,o,_⟩:=y;simp only[Trace.act?,d,aaJ,acy,c]at o;cases o
def JI.app0(h:JI Shun W t)(d:∀op∈u,op.g=0):JI Shun W (t++u):=
 h.app (λi a op j e _ _=>.inl (by
  rcases aa4 e with⟨f,_⟩|⟨_,b⟩
  .omega
  exact d op b)) λop c=>.inl (d op c)
def JI.mute(h:JI Shun W t)(e:∀op∈u,op.act.touch?=none):JI Shun W (t++u):=
 h.app (λi a op k f b _=>by
  rcases aa4 f with⟨j,_⟩|⟨_,c⟩
  .omega
  rw[e op c]at b;cases b) λop d=>.inr (.inr (e op d))
def vf(b:∀e∈es,e.loc≠.mark .disable/\e.loc≠.mark .enable)(k:Deaf t g=0)(fn:FuncId)(pos:String)(i:Nat)(n:t.size<=i)(a:i<(t++MemOp.ofEvents g fn pos es).size):
 (t++MemOp.ofEvents g fn pos es).heard i:=by
 have c:(MemOp.ofEvents g fn pos es).size=es.size:=by rw[ofEvents_eq];simp
 have f:i-t.size<=es.size:=by simp[c]at a;omega
 have:=deaf_inside t g fn pos es (i-t.size) f;rw[show t.size+(i-t.size)=i by omega,k,deafBehind_still (λe m=>by
  refine b e ?_;obtain⟨j,f,rfl⟩:=Array.mem_iff_getElem.1 m;rw[Array.getElem_extract];exact Array.getElem_mem _)]at this
 refine⟨g,?_,this⟩;obtain⟨op,h⟩:∃op,(t++MemOp.ofEvents g fn pos es)[i]?=some op:=⟨_,Z5 a⟩;rcases aa4 h with⟨o,_⟩|⟨_,d⟩
 .omega
 obtain⟨e,_,rfl⟩:=aaH d;simp[Trace.g?,h]
def JI.heard(h:JI Shun W t)(m:W g)(b:∀e∈es,e.loc≠.mark .disable/\e.loc≠.mark .enable)(n:Deaf t g=0)(fn:FuncId)(pos:String):JI Shun W (t++MemOp.ofEvents g fn pos es):=
 h.app (λi a op o c d p=>.inr (.inr (by
  have f:=lt_size_of_getElem? c;have q:=vf b n fn pos i o f;refine⟨?_,a,by simp[Trace.act?,c,d],p,.inr q⟩;rcases aa4 c with⟨r,_⟩|⟨_,j⟩
  .omega
  obtain⟨e,_,rfl⟩:=aaH j;exact m))) λop k=>.inr (.inl (by obtain⟨e,_,rfl⟩:=aaH k;exact m))
def JI.shunned(h:JI Shun W t)(f:W g)(e:∀op∈u,op.g=g/\∀x,op.act.touch?=some x->Shun x.loc/\x.kind=.atomic):JI Shun W (t++u):=
 h.app (λi a op m j b _=>.inr (.inl (by
  rcases aa4 j with⟨k,_⟩|⟨_,c⟩
  .omega
  exact(e op c).2 a b))) λop d=>.inr (.inl ((e op d).1▸f))
def JI.join{a:Es}{q:Nat}(h:JI Shun W t)(o:∀g,W g->∃r,RelBy a t g r/\r<q)(A:NoRelease a t)(C:t.act? q=some (.mark (.acquire a)))(y:t.g? q=some 0)(D:t.heard q)
 (p:∀f,¬Race f t)(E:Deaf t 0=0)(F:∀op∈t,op.act.low B):Past Shun B t:=by
 have j:∀i g,W g->t.g? i=some g->t.counts i->HappensBefore t i q:=by
  intro i g G b m;obtain⟨r,n,s⟩:=o g G;have d:HappensBefore t r q:=.single (.inr ⟨.marked s (.inr n.act) C (λk _ _=>A k),n.heard,D⟩);have H:i<=r:=adw λe=>n.after i e b m;rcases aa8 i r with e|I
  .exact .trans (.single (.inl ⟨e,g,b,n.g⟩)) d
  obtain rfl:i=r:=oM;exact d
 obtain⟨z,J,v⟩:=ZX.1 y;refine⟨p,λi x K L=>?_,λi g b w m=>?_,E,F⟩
 .rcases h.kn i x K L with c|c|⟨g,c,M,N⟩
  .exact .inl c
  .exact .inr c
  exact .inl ⟨q,z,J,v,.inr (j i g c M N)⟩
 rcases h.over i g b w m with c|c
 .exact c
 exact⟨q,y,j i g c b m⟩
end
end
section
open Go.Conc Go.ConcN
variable{M:Nat->Prop}{a:Ar}{gs:Array Ar}{q:Nat->Nat}{t:Trace}{w:AK}
structure Fra(P:E2)(Shun:Loc->Prop)(B:Nat)(gs:Array Ar)(a:Ar)(t:Trace)(q:Nat->Nat):Prop where
 zero:gs[0]?=a
 leave:Leavers P t gs q
 past:Past Shun B t
section
variable{P:E2}{Shun:Loc->Prop}{B:Nat}{gs:Array Ar}{a:Ar}{t:Trace}{q:Nat->Nat}
def Fra.awake(h:Fra P Shun B gs a t q)(b:a.status=.running):∀g∈gs,awake g:=by
 intro g d;obtain⟨i,c,rfl⟩:=Array.mem_iff_getElem.1 d;cases i with
 |zero=>
  have:gs[0]=a:=by have:=h.zero;rw[Z5 c]at this;exact ZO this
  rw[this];exact awake_of (.inl b)
 |succ i=>exact awake_of ((h.leave.old (i+1) _ (Nat.succ_pos i) (Z5 c)).status.elim .inl λx=>.inr (.inr x))
def Fra.own(h:Fra P Shun B gs a t q){B':Nat}(o:B<=B'){w':AK}{a':Ar}{es:Array Nc}(p:KC P true a w=.go a' w' es)(f:∀e∈es,EvL Shun B' e):
 ∃b l,(∀sl,runT P (crowd gs w sl) 0=(.next (crowd b w' sl),MemOp.ofEvents 0 a.frame.fn a.frame.place es))/\l=t++MemOp.ofEvents 0 a.frame.fn a.frame.place es/\b.size=gs.size/\Fra P Shun B' b a' l q:=by
 have g:0<gs.size:=(Zq.1 h.zero).1;refine⟨(gs.map (woken P a a' w')).setIfInBounds 0 a',_,λsl=>ac1 (i:=0) h.zero p,rfl,sM,⟨by simp[g],⟨λj x d m=>?_,λj d=>?_⟩,(h.past.mono o).own f⟩⟩
 .have k:0≠j:=oM;rw[ZF k,abv]at m;obtain⟨y,r,rfl⟩:=ZX.1 m;have n:=h.leave.old j y d r;rw[woken_quitsD n,abV t oM _ (λop c=>by obtain⟨e,_,rfl⟩:=aaH c;rfl)];exact n
 rw[abV t (g':=0) (by simp at d;omega) _ (λop c=>by obtain⟨e,_,rfl⟩:=aaH c;rfl)];exact h.leave.above j (by simpa using d)
def Fra.slip(h:Fra P Shun B gs a t q)(l:a.status=.running){i:Nat}{g:Ar}(m:0<i)(z:gs[i]?=g)(r:g.status=.running)(w:AK):
 ∃k b es E,q i=k+1/\(∀sl,runT P (crowd gs w sl) i=(.next (crowd b w sl),MemOp.ofEvents i g.frame.fn g.frame.place es))/\b.size=gs.size/\sumTo b.size E+1=sumTo gs.size q/\Fra P Shun B b a (t++MemOp.ofEvents i g.frame.fn g.frame.place es) E:=by
 have s:=h.leave.old i g m z;have A:(i==0)=false:=by simp;omega
 have n:i<gs.size:=(Zq.1 z).1;cases d:q i with
 |zero=>rw[d]at s;rw[s.1]at r;cases r
 |succ k=>
  rw[d]at s;rcases s with⟨G,_⟩|⟨_,g',es,H,o,C⟩
  .rw[G]at r;cases r
  have F:sumTo gs.size (upd q i k)+(k+1)=sumTo gs.size q+k:=by
   have:=sumTo_upd q k id n;simpa[d]using this
  refine⟨k,(gs.map (woken P g g' w)).setIfInBounds i g',es,upd q i k,rfl,λsl=>ac1 (P:=P) (sl:=sl) (i:=i) z (by rw[A];exact o w),sM,by simp only[abk,adp];omega,⟨?_,⟨λj x u v=>?_,λj u=>?_⟩,h.past.mute oM H⟩⟩
  .have D:i≠0:=oM;rw[ZF D,abv,h.zero];simp[woken_run l]
  .by_cases c:i=j
   .subst c;rw[Z0 (by simpa using n)]at v;obtain rfl:=ZO v;rw[aaN,Deaf_own];exact C
   rw[ZF c,abv]at v;obtain⟨y,I,rfl⟩:=ZX.1 v;have p:=h.leave.old j y u I;rw[woken_quitsD p,abK q k (abj c),abV t c _ (λop f=>by obtain⟨e,_,rfl⟩:=aaH f;rfl)];exact p
  rw[abV t (g':=i) (by simp at u;omega) _ (λop f=>by obtain⟨e,_,rfl⟩:=aaH f;rfl)];exact h.leave.above j (by simpa using u)
end
section
variable{P:E2}{Shun:Loc->Prop}{B:Nat}{R:AK->AK->Prop}{D:(Nat->Prop)->AK->AK->Array Nc->Prop}{Stop:Ar->(Nat->Prop)->AK->Prop}
def pE(Bf:AK->Nat)(z:∀w d,Bf (w.at d)=Bf w)(O:Trans R)(C:∀w d,R w (w.at d))(Q:∀M w w' es,D M w w' es->Bf w<=Bf w'/\∀e∈es,EvL Shun (Bf w') e)(h:an P true R D Stop a M w):
 ∀(K:Nat)(gs:Array Ar)(w₁:AK)(sl:Option (Nat×Nat))(t:Trace)(q:Nat->Nat),sumTo gs.size q<=K->Rel R M w w₁->Fra P Shun (Bf w₁) gs a t q->
  ∃(N:Nat)(b:Array Ar)(a':Ar)(M':Nat->Prop)(w':AK)(m:Option (Nat×Nat))(S:Trace)(T:Nat->Nat),
   runNT P N (crowd gs w₁ sl) t=(.next (crowd b w' m),S)/\b.size=gs.size/\Stop a' M' w'/\Fra P Shun (Bf w') b a' S T:=by
 induction h with
 |stop h=>exact λK gs w₁ sl t q _ E n=>⟨0,gs,_,_,w₁,sl,t,q,rfl,rfl,h w₁ E,n⟩
 |step j h _ X=>
  rename_i a M w _;intro K;induction K with
  |zero=>
   intro gs w₁ sl t q hK E n;obtain⟨i,g,d,m,A,U,y⟩:=crowd_pick (P:=P) (w:=w₁) (sl:=sl) (n.awake j) ⟨0,_,n.zero,j⟩;rcases aaq i with rfl|p
   ·(obtain rfl:g=a:=by have:=n.zero;rw[A]at this;exact ZO this);have o:=E.trans O (⟨rfl,rfl,rfl,Zo _,λ_ _=>rfl,C _ d⟩:Rel R M w₁ (w₁.at d));have r:=h _ o;cases l:KC P true g (w₁.at d)with
    |go a' w' es=>
     rw[l]at r;obtain⟨b,S,c,rfl,s,u⟩:=n.own (by rw[<-z w₁ d];exact(Q _ _ _ _ r).1) l (Q _ _ _ _ r).2;obtain⟨N,v,F,G,H,x,t2,I,e1,e2,J,L⟩:=X _ a' w' es o l (sumTo b.size q) b w' m _ q (Zo _) (aeb O _ _) u;exact⟨N+1,v,F,G,H,x,t2,I,by simp only[runNT,y,c];exact e1,e2.trans s,J,L⟩
    |_=>rw[l]at r;exact r.elim
   exfalso;obtain⟨k,_,_,_,Z,_⟩:=n.slip j p A U w₁;have V:i<gs.size:=(Zq.1 A).1;have:=le_sumTo (f:=q) V;omega
  |succ K W=>
   intro gs w₁ sl t q hK E n;obtain⟨i,g,d,m,A,U,y⟩:=crowd_pick (P:=P) (w:=w₁) (sl:=sl) (n.awake j) ⟨0,_,n.zero,j⟩;have o:=E.trans O (⟨rfl,rfl,rfl,Zo _,λ_ _=>rfl,C _ d⟩:Rel R M w₁ (w₁.at d));rcases aaq i with rfl|p
   ·(obtain rfl:g=a:=by have:=n.zero;rw[A]at this;exact ZO this);have r:=h _ o;cases l:KC P true g (w₁.at d)with
    |go a' w' es=>
     rw[l]at r;obtain⟨b,S,c,rfl,s,u⟩:=n.own (by rw[<-z w₁ d];exact(Q _ _ _ _ r).1) l (Q _ _ _ _ r).2;obtain⟨N,v,F,G,H,x,t2,I,e1,e2,J,L⟩:=X _ a' w' es o l (sumTo b.size q) b w' m _ q (Zo _) (aeb O _ _) u;exact⟨N+1,v,F,G,H,x,t2,I,by simp only[runNT,y,c];exact e1,e2.trans s,J,L⟩
    |_=>rw[l]at r;exact r.elim
   obtain⟨k,b,es,T,Z,c,s,Y,u⟩:=n.slip j p A U (w₁.at d);obtain⟨N,v,F,G,H,x,t2,I,e1,e2,J,L⟩:=W b (w₁.at d) m _ T oM o (by rw[z];exact u);exact⟨N+1,v,F,G,H,x,t2,I,by simp only[runNT,y,c];exact e1,e2.trans s,J,L⟩
def Be(i:Trans R)(c:∀w d,R w (w.at d))(j:∀M w w' es,D M w w' es->(w:Nat)<=w'/\∀e∈es,EvL Shun w' e)(h:an P true R D Stop a M w):
 ∀(K:Nat)(gs:Array Ar)(w₁:AK)(sl:Option (Nat×Nat))(t:Trace)(q:Nat->Nat),sumTo gs.size q<=K->Rel R M w w₁->Fra P Shun w₁ gs a t q->
  ∃(N:Nat)(b:Array Ar)(a':Ar)(M':Nat->Prop)(w':AK)(f:Option (Nat×Nat))(g:Trace)(k:Nat->Nat),
   runNT P N (crowd gs w₁ sl) t=(.next (crowd b w' f),g)/\b.size=gs.size/\Stop a' M' w'/\Fra P Shun w' b a' g k:=
 pE (λw=>w) (λ_ _=>rfl) i c j h
def Fra.walkQ(f:Trans R)(c:∀w d,R w (w.at d))(i:∀M w w' es,D M w w' es->es=#[])(j:Fra P Shun B gs a t q)(h:an P true R D Stop a M w)(sl:Option (Nat×Nat)):
 ∃(N:Nat)(b:Array Ar)(a':Ar)(M':Nat->Prop)(w':AK)(e:Option (Nat×Nat))(g:Trace)(k:Nat->Nat),
  runNT P N (crowd gs w sl) t=(.next (crowd b w' e),g)/\b.size=gs.size/\Stop a' M' w'/\Fra P Shun B b a' g k:=
 pE (λ_=>B) (λ_ _=>rfl) f c (λM w w' es l=>⟨Zo _,by rw[i _ _ _ _ l];simp⟩) h _ gs w sl t q (Zo _) (aeb f _ _) j
def Fra.walk(g:Trans R)(c:∀w d,R w (w.at d))(j:∀M w w' es,D M w w' es->(w:Nat)<=w'/\∀e∈es,EvL Shun w' e)(k:Fra P Shun w gs a t q)(h:an P true R D Stop a M w)(sl:Option (Nat×Nat)):
 ∃(N:Nat)(b:Array Ar)(a':Ar)(M':Nat->Prop)(w':AK)(f:Option (Nat×Nat))(i:Trace)(l:Nat->Nat),
  runNT P N (crowd gs w sl) t=(.next (crowd b w' f),i)/\b.size=gs.size/\Stop a' M' w'/\Fra P Shun w' b a' i l:=
 Be g c j h _ gs w sl t q (Zo _) (aeb g _ _) k
end
end
section
open Go.Conc Go.ConcN
open Go.ConcR (KK wgBlock WgAt stA smA rd wr mk Payload DC0)
variable[Payload]
def InB(x:Nat)(l:Loc):Prop:=(∃a,l=.cell a/\a.block=x)\/l=.obj x
omit [Payload]in
def InB.inj{x y:Nat}{l:Loc}(h:InB x l)(k:InB y l):x=y:=by
 rcases h with⟨a,rfl,rfl⟩|rfl<;>rcases k with⟨a',h,rfl⟩|h<;>cases h<;>rfl
omit [Payload]in
def j4(a:Es):InB a.block (.cell a):=.inl ⟨a,rfl,rfl⟩
structure bW where
 ty:E1
 Wg:Nat
 C:Nat
 E:Nat
 n:Nat
 b:Nat
 Fl:AK->AK->Prop
 Fok:AK->Prop
 Out:Nat->(Nat->Prop)->AK->Prop
structure bW.Laws(K:bW):Prop where
 flr:∀w,K.Fl w w
 fok:∀w v,K.Fok w->K.Fl w v->K.Fok v
 flt:∀a b c,K.Fl a b->K.Fl b c->K.Fl a c
 flE:∀w v,v.heap[K.E]?=w.heap[K.E]?->K.Fl w v
 out:∀i M w v,K.Out i M w->(∀x,M x->v.heap[x]?=w.heap[x]?)->v (aD K.C i)=w (aD K.C i)->K.Fl w v->K.Out i M v
 cw:K.C≠K.Wg
 ew:K.E≠K.Wg
 ec:K.E≠K.C
 few:K.n<2147483648
section
variable(K:bW)
structure RK(i:Nat)(Fz:Nat->Prop)(w v:AK):Prop where
 fz:∀x,Fz x->v.heap[x]?=w.heap[x]?
 live:WgLive K.ty K.Wg w->WgLive K.ty K.Wg v
 pay:PayAt K.C K.n w->PayAt K.C K.n v
 cell:v (aD K.C i)=w (aD K.C i)
 fl:K.Fl w v
structure R0(Fz:Nat->Prop)(w v:AK):Prop where
 fz:∀x,Fz x->v.heap[x]?=w.heap[x]?
 live:WgLive K.ty K.Wg w->WgLive K.ty K.Wg v
def EvK(i:Nat)(Fz M:Nat->Prop)(a:Nat)(e:Nc):Prop:=
 (∀x,(MemAct.ofEvent e).touch?=some x->(∃b,M b/\InB b x.loc)\/x.loc=.cell (aD K.C i)\/((∃b,Fz b/\InB b x.loc)/\x.write=false)\/(InB K.E x.loc/\x.kind=.atomic)\/(ShN K.Wg x.loc/\x.kind=.atomic))/\
 e.loc≠.mark .disable/\e.loc≠.mark .enable/\e.loc≠.mark (.release (stA K.Wg))/\(MemAct.ofEvent e).low a
structure DK(i:Nat)(Fz M:Nat->Prop)(v v':AK)(es:Array Nc):Prop where
 tape:v'.tape=v.tape
 os:v'.os=v.os
 out:v'.output=v.output
 size:(v:Nat)<=v'
 rest:∀x,x<(v:Nat)->¬M x->x≠K.C->x≠K.E->v'.heap[x]?=v.heap[x]?
 pay:PayAt K.C K.n v->PayAt K.C K.n v'
 cells:∀i',i'≠i->v' (aD K.C i')=v (aD K.C i')
 fl:K.Fl v v'
 ev:∀e∈es,EvK K i Fz (bP M v v') v' e
def EvS(Fz M:Nat->Prop)(a:Nat)(e:Nc):Prop:=
 (∀x,(MemAct.ofEvent e).touch?=some x->(∃b,M b/\InB b x.loc)\/((∃b,Fz b/\InB b x.loc)/\x.write=false)\/(ShN K.Wg x.loc/\x.kind≠.plain))/\
 e.loc≠.mark .disable/\e.loc≠.mark .enable/\e.loc≠.mark (.release (stA K.Wg))/\(MemAct.ofEvent e).low a
structure D0(Fz M:Nat->Prop)(v v':AK)(es:Array Nc):Prop where
 tape:v'.tape=v.tape
 os:v'.os=v.os
 out:v'.output=v.output
 size:(v:Nat)<=v'
 rest:∀x,x<(v:Nat)->¬M x->v'.heap[x]?=v.heap[x]?
 ev:∀e∈es,EvS K Fz (bP M v v') v' e
def RK.tr(hK:K.Laws)(i:Nat)(Fz:Nat->Prop):Trans (RK K i Fz):=
 ⟨λw=>⟨λ_ _=>rfl,id,id,rfl,hK.flr w⟩,λa b c h k=>⟨λx d=>(k.fz x d).trans (h.fz x d),k.live∘h.live,k.pay∘h.pay,k.cell.trans h.cell,hK.flt _ _ _ h.fl k.fl⟩⟩
def aeV:=@RK.tr
omit [Payload]in
def R0.tr(Fz:Nat->Prop):Trans (R0 K Fz):=⟨λw=>⟨λ_ _=>rfl,id⟩,λa b c h k=>⟨λx d=>(k.fz x d).trans (h.fz x d),k.live∘h.live⟩⟩
def aeW:=@R0.tr
def RK.rw'{i:Nat}{Fz:Nat->Prop}{w v:AK}(h:RK K i Fz w v):RW K.ty K.Wg K.C K.n 0 i w v:=⟨λb a=>oM,h.live,h.pay,h.cell⟩
end
def vh(K:bW)(j:Nat)(w:AK):Prop:=PayAt K.C K.n w/\K.Fok w/\∀i,j<=i->i<K.n->w (aD K.C i)=some (.slice none 0 0)
section
variable(P:E2)(K:bW)
def SR0(i:Nat)(g:Ar)(M:Nat->Prop)(w:AK):Prop:=
 g.status=.running/\K.Out i M w/\∃g',KC P false g w=.go g' w #[mk (.releaseMerge (stA K.Wg))]/\∃m,Goes P false (RW K.ty K.Wg K.C K.n 0 i) DC0 (AtK1 P K.ty K.Wg K.C K.n 0 (i+1)) m g' w
def WK(i:Nat)(Fz M:Nat->Prop)(s m d:Nat)(g:Ar)(w:AK):Prop:=
 (s=7/\m=0/\d=0/\an P false (RK K i Fz) (DK K i Fz) (SR0 P K i) g M w)\/
 (s<=6/\WSit P K.ty K.Wg K.C K.n (λ_ _=>False) (λ_ _=>False) 0 (i+1) C0 s m d g w)
section
variable(Fz:Nat->Prop)(AnchW Aft:Ar->(Nat->Prop)->AK->Prop)
def Hn(g:Ar)(M:Nat->Prop)(w:AK):Prop:=
 g.status=.running/\∃g',KC P true g w=.go g' w #[mk (.acquire (stA K.Wg))]/\Aft g' M w
def SKe(g:Ar)(M:Nat->Prop)(w:AK):Prop:=
 g.status=.running/\∃g',KC P true g w=.go g' w #[mk .enable]/\an P true (R0 K Fz) (D0 K Fz) (Hn P K Aft) g' M w
def SW4(g:Ar)(M:Nat->Prop)(w:AK):Prop:=
 g.status=.running/\(WgAt K.ty K.Wg w 0 0->∃g',KC P true g w=.go g' w #[rd (stA K.Wg)]/\an P true (R0 K Fz) (D0 K Fz) (SKe P K Fz Aft) g' M w)
def SW3(g:Ar)(M:Nat->Prop)(w:AK):Prop:=
 g.status=.running/\g.offers=none/\
  ((∃st,WgAt K.ty K.Wg w st 0)->KC P true g w=.go {g with status:=.blocked} w #[])/\
  (WgAt K.ty K.Wg w 0 1->∃g',KC P true g w=.go g' (w.setCell (smA K.Wg) (iH 0)) (semEvents (smA K.Wg))/\an P true (R0 K Fz) (D0 K Fz) (SW4 P K Fz Aft) g' M (w.setCell (smA K.Wg) (iH 0)))
def SW2(a:Nat)(g:Ar)(M:Nat->Prop)(w:AK):Prop:=
 g.status=.running/\∀v:Nat,v<2147483648->WgAt K.ty K.Wg w (v*KK) 0->
  (v=a->∃g',KC P true g w=.go g' (w.setCell (stA K.Wg) (iU (v*KK+1))) #[rd (stA K.Wg),wr (stA K.Wg)]/\an P true (R0 K Fz) (D0 K Fz) (SW3 P K Fz Aft) g' M (w.setCell (stA K.Wg) (iU (v*KK+1))))/\
  (v≠a->∃g',KC P true g w=.go g' w #[rd (stA K.Wg)]/\an P true (R0 K Fz) (D0 K Fz) AnchW g' M w)
def SW1(g:Ar)(M:Nat->Prop)(w:AK):Prop:=
 g.status=.running/\∀v:Nat,v<2147483648->WgAt K.ty K.Wg w (v*KK) 0->∃g',KC P true g w=.go g' w #[rd (stA K.Wg)]/\
  (v=0->an P true (R0 K Fz) (D0 K Fz) (SKe P K Fz Aft) g' M w)/\(v≠0->an P true (R0 K Fz) (D0 K Fz) (SW2 P K Fz AnchW Aft v) g' M w)
def SKd(g:Ar)(M:Nat->Prop)(w:AK):Prop:=
 g.status=.running/\∃g',KC P true g w=.go g' w #[mk .disable]/\an P true (R0 K Fz) (D0 K Fz) AnchW g' M w
def SGo(j:Nat)(Next:(Nat->Prop)->Ar->AK->Prop)(g:Ar)(M:Nat->Prop)(w:AK):Prop:=
 g.status=.running/\∃g' child,KC P true g w=.spawn g' child w #[]/\child.status=.running/\
  (vh K j w->an P false (RK K j (λx=>Fz x\/M x)) (DK K j (λx=>Fz x\/M x)) (SR0 P K j) child (λ_=>False) w)/\Next (λx=>Fz x\/M x) g' w
def QT(j:Nat)(Next:(Nat->Prop)->Ar->AK->Prop)(g:Ar)(M:Nat->Prop)(w:AK):Prop:=
 g.status=.running/\∃g',KC P true g w=.go g' w #[mk .enable]/\an P true (R0 K Fz) (D0 K Fz) (SGo P K Fz j Next) g' M w
def SA1(j:Nat)(Next:(Nat->Prop)->Ar->AK->Prop)(g:Ar)(M:Nat->Prop)(w:AK):Prop:=
 g.status=.running/\∀v:Nat,v<2147483647->WgAt K.ty K.Wg w (v*KK) 0->
  ∃g',KC P true g w=.go g' (w.setCell (stA K.Wg) (iU ((v+1)*KK))) #[rd (stA K.Wg),wr (stA K.Wg)]/\an P true (R0 K Fz) (D0 K Fz) (QT P K Fz j Next) g' M (w.setCell (stA K.Wg) (iU ((v+1)*KK)))
def Hm(j:Nat)(Next:(Nat->Prop)->Ar->AK->Prop)(g:Ar)(M:Nat->Prop)(w:AK):Prop:=
 g.status=.running/\∃g',KC P true g w=.go g' w #[mk .disable]/\an P true (R0 K Fz) (D0 K Fz) (SA1 P K Fz j Next) g' M w
end
section
variable(AnchW Aft:Ar->(Nat->Prop)->AK->Prop)
def cz:Nat->(Nat->Prop)->Ar->AK->Prop
 |0,Fz,g,w=>an P true (R0 K Fz) (D0 K Fz) (SKd P K Fz AnchW) g (λ_=>False) w
 |r+1,Fz,g,w=>an P true (R0 K Fz) (D0 K Fz) (Hm P K Fz (K.n-(r+1)) (cz r)) g (λ_=>False) w
inductive Tag(Fz:Nat->Prop):CTag->Nat->Nat->Nat->(Ar->(Nat->Prop)->AK->Prop)->Prop
 |skd {r:Nat}:r<K.n->Tag Fz (.sp r 5) (K.n-(r+1)) 0 0 (Hm P K Fz (K.n-(r+1)) (cz P K AnchW r))
 |sa1 {r:Nat}:r<K.n->Tag Fz (.sp r 4) (K.n-(r+1)) 1 0 (SA1 P K Fz (K.n-(r+1)) (cz P K AnchW r))
 |ske {r:Nat}:r<K.n->Tag Fz (.sp r 3) (K.n-(r+1)) 1 0 (QT P K Fz (K.n-(r+1)) (cz P K AnchW r))
 |sgo {r:Nat}:r<K.n->Tag Fz (.sp r 2) (K.n-(r+1)) 0 0 (SGo P K Fz (K.n-(r+1)) (cz P K AnchW r))
 |kd:Tag Fz .kd K.n 0 0 (SKd P K Fz AnchW)
 |anch:Tag Fz .anch K.n 1 0 AnchW
 |w1:Tag Fz .w1 K.n 1 0 (SW1 P K Fz AnchW Aft)
 |w2 {vs:Nat}:Tag Fz (.w2 vs) K.n 1 0 (SW2 P K Fz AnchW Aft vs)
 |w3:Tag Fz .w3 K.n 1 1 (SW3 P K Fz Aft)
 |blk:Tag Fz .blk K.n 1 0 (SW3 P K Fz Aft)
 |w4:Tag Fz .w4 K.n 1 0 (SW4 P K Fz Aft)
 |ke:Tag Fz .ke K.n 1 0 (SKe P K Fz Aft)
 |acq:Tag Fz .acq K.n 0 0 (Hn P K Aft)
def CS(Fz:Nat->Prop)(tag:CTag)(j d f:Nat)(Stop:Ar->(Nat->Prop)->AK->Prop)(a:Ar)(M:Nat->Prop)(w:AK):Prop:=
 Tag P K AnchW Aft Fz tag j d f Stop/\
 ((tag≠.blk/\an P true (R0 K Fz) (D0 K Fz) Stop a M w)\/(tag=.blk/\∃g,a={g with status:=.blocked}/\∀v,Rel (R0 K Fz) M w v->SW3 P K Fz Aft g M v))
end
end
section
variable{P:E2}{K:bW}{i:Nat}{Fz M:Nat->Prop}{s m d:Nat}{g:Ar}{w v:AK}
omit [Payload]in
def an.running{main:Bool}{R:AK->AK->Prop}{D:(Nat->Prop)->AK->AK->Array Nc->Prop}{Stop:Ar->(Nat->Prop)->AK->Prop}(a:Trans R)(b:∀g M w,Stop g M w->g.status=.running)(h:an P main R D Stop g M w):g.status=.running:=by
 cases h with
 |stop h=>exact b _ _ _ (h w (aeb a M w))
 |step h _ _=>exact h
def WK.rely(hK:K.Laws)(h:WK P K i Fz M s m d g w)(b:Rel (RK K i Fz) M w v):WK P K i Fz M s m d g v:=by
 rcases h with⟨a,c,e,h⟩|⟨a,h⟩
 .exact .inl ⟨a,c,e,h.rely (aeV K hK i Fz) b⟩
 exact .inr ⟨a,h.rely b.more.rw'⟩
def WK.status(hK:K.Laws)(h:WK P K i Fz M s m d g w):g.status=.running\/g.status=.finished:=by
 rcases h with⟨_,_,_,h⟩|⟨_,h⟩
 .exact .inl (h.running (aeV K hK i Fz) λ_ _ _ h=>h.1)
 exact h.status
def WK.running_of(hK:K.Laws)(h:WK P K i Fz M s m d g w)(a:s≠1):g.status=.running:=by
 rcases h with⟨_,_,_,h⟩|⟨_,h⟩
 .exact h.running (aeV K hK i Fz) λ_ _ _ h=>h.1
 exact h.running_of a
def WK.woken(hK:K.Laws)(h:WK P K i Fz M s m d g w)(a a':Ar)(w':AK):woken P a a' w' g=g:=by
 unfold Go.Conc.woken;split
 .exact again_running _ (h.status hK)
 rfl
variable{AnchW Aft:Ar->(Nat->Prop)->AK->Prop}{Stop:Ar->(Nat->Prop)->AK->Prop}{tag:CTag}{j f:Nat}{a:Ar}
def CS.rely(h:CS P K AnchW Aft Fz tag j d f Stop a M w)(e:Rel (R0 K Fz) M w v):CS P K AnchW Aft Fz tag j d f Stop a M v:=by
 refine⟨h.1,?_⟩;rcases h.2 with⟨b,c⟩|⟨b,g,c,k⟩
 .exact .inl ⟨b,c.rely (aeW K Fz) e⟩
 exact .inr ⟨b,g,c,λx l=>k x (e.trans (aeW K Fz) l)⟩
def Tag.run(b:∀g M w,AnchW g M w->g.status=.running)(h:Tag P K AnchW Aft Fz tag j d f Stop):∀g M w,Stop g M w->g.status=.running:=by
 cases h<;>first|exact b|exact λ_ _ _ h=>h.1
def CS.status(b:∀g M w,AnchW g M w->g.status=.running)(h:CS P K AnchW Aft Fz tag j d f Stop a M w):(a.status=.running/\tag≠.blk)\/(a.status=.blocked/\tag=.blk):=by
 rcases h.2 with⟨c,e⟩|⟨c,g,rfl,k⟩
 .exact .inl ⟨e.running (aeW K Fz) (h.1.run b),c⟩
 exact .inr ⟨rfl,c⟩
def CS.wokenBy(e:∀g M w,AnchW g M w->g.status=.running)(h:CS P K AnchW Aft Fz tag j d f Stop a M w)(r:Rel (R0 K Fz) M w v)(g g':Ar):
 ∃tag' f',CS P K AnchW Aft Fz tag' j d f' Stop (woken P g g' v a) M v/\f'<=f+1/\((tag'=tag/\f'=f/\woken P g g' v a=a)\/(tag=.blk/\tag'=.w3))/\(mayWake P g->g'.status=.running->tag'≠.blk):=by
 have k:=h.rely r;by_cases b:woken P g g' v a=a
 .rw[b];refine⟨tag,f,k,oM,.inl ⟨rfl,rfl,rfl⟩,λu x=>?_⟩;rcases h.status e with⟨_,n⟩|⟨B,rfl⟩
  .exact n
  exfalso;have:woken P g g' v a=a.again v:=by simp[Go.Conc.woken,u,x]
  rw[this]at b;rcases h.2 with⟨o,_⟩|⟨_,p,rfl,l⟩
  .exact o rfl
  have c:=l v r;rw[Go.ConcR.again_blocked c.1 c.2.1]at b;have:=aal Goroutine.status b;rw[c.1]at this;cases this
 rcases k.status e with⟨y,_⟩|⟨_,rfl⟩
 .exact absurd (woken_run y) b
 rcases k.2 with⟨o,_⟩|⟨_,p,rfl,l⟩
 .exact absurd rfl o
 have c:=l v (aeb (aeW K Fz) M v);have q:woken P g g' v {p with status:=.blocked}=({p with status:=.blocked}:Ar).again v:=by
  unfold Go.Conc.woken at b⊢;split
  .rfl
  rename_i z;rw[Zr z]at b;exact absurd rfl b
 rw[q,Go.ConcR.again_blocked c.1 c.2.1];have t:=k.1;generalize A:CTag.blk=C at t;cases t<;>first|cases A;done|skip
 exact⟨.w3,1,⟨.w3,.inl ⟨sM,.stop l⟩⟩,oM,.inr ⟨rfl,rfl⟩,λ_ _=>sM⟩
end
end
section
open Go.Conc Go.ConcN
open Go.ConcR (KK wgBlock WgAt stA smA rd wr mk Payload DC0 Bk g_of_ofEvents)
variable{B g i k sz' x:Nat}{M' M0':Nat->Prop}{a' g':Ar}{es:Array Nc}{fn:FuncId}{l:Loc}{pos:String}
variable[Payload]
omit [Payload]in
def Gp{x:MemAct}{a:Touch}(h:x.low B)(b:x.touch?=a):a.loc.low B:=by
 cases x with
 |access e=>simp only[MemAct.touch?,Zt]at b;subst b;exact h
 |mark m=>cases m<;>simp only[MemAct.touch?,Zt]at b<;>first|cases b;done|(subst b;exact h)
 |_=>cases b
omit [Payload]in
def MB(h:l.low B)(b:InB x l):x<B:=by
 rcases b with⟨a,rfl,rfl⟩|rfl<;>exact h
omit [Payload]in
def pM{t:Trace}(h:∀op∈t,op.act.low B)(j:B<=x)(d:InB x l):∀i a,touchAt t i=some a->a.loc≠l:=by
 intro i a f e;obtain⟨op,b,c⟩:=touch_of f;have:=MB (Gp (h op (ZS b)) c) (e▸d);omega
section
variable(K:bW)(j:Nat)(M0 Fz:Nat->Prop)(Ms Fzs:Nat->Nat->Prop)
structure ks(sz:Nat):Prop where
 m0:∀x,M0 x->¬Fz x/\x≠K.C/\x≠K.E/\x≠K.Wg/\x<sz
 ms:∀i,i<j->∀x,Ms i x->¬Fz x/\¬M0 x/\x≠K.C/\x≠K.E/\x≠K.Wg/\x<sz
 mm:∀i i',i<j->i'<j->i≠i'->∀x,Ms i x->¬Ms i' x
 fz:∀x,Fz x->x≠K.C/\x≠K.E/\x≠K.Wg/\x<sz
 sub:∀i,i<j->∀x,Fzs i x->Fz x
 c:K.C<sz
 e:K.E<sz
 wg:K.Wg<sz
def cellC(i:Nat):Loc:=.cell (aD K.C i)
def oD:Dn where
 full:=λg l=>(g=0/\((∃x,M0 x/\InB x l)\/∃i,j<=i/\l=cellC K i))\/∃i,i<j/\g=K.b+1+i/\(l=cellC K i\/∃x,Ms i x/\InB x l)
 read:=λg l=>(g=0/\∃x,Fz x/\InB x l)\/∃i,i<j/\g=K.b+1+i/\∃x,Fzs i x/\InB x l
 atm:=λl=>InB K.E l
 gp:=ShN K.Wg
def wks(g:Nat):Prop:=∃i,i<j/\g=K.b+1+i
def act(g:Nat):Prop:=g=0\/wks K j g
end
section
variable{K:bW}{j:Nat}{M0 Fz:Nat->Prop}{Ms Fzs:Nat->Nat->Prop}{sz:Nat}
omit [Payload]in
def qb(i:Nat):InB K.C (cellC K i):=.inl ⟨_,rfl,rfl⟩
omit [Payload]in
def o3(h:ShN K.Wg l):InB K.Wg l:=.inl h
inductive Le(K:bW)(j:Nat)(M0:Nat->Prop)(Ms:Nat->Nat->Prop)(g:Nat)(l:Loc):Prop
 |m0 (x:Nat):g=0->M0 x->InB x l->Le K j M0 Ms g l
 |c0 (i:Nat):g=0->j<=i->l=cellC K i->Le K j M0 Ms g l
 |c (i:Nat):i<j->g=K.b+1+i->l=cellC K i->Le K j M0 Ms g l
 |m (i x:Nat):i<j->g=K.b+1+i->Ms i x->InB x l->Le K j M0 Ms g l
omit [Payload]in
def lV(h:(oD K j M0 Fz Ms Fzs).full g l):Le K j M0 Ms g l:=by
 rcases h with⟨h,⟨x,a,b⟩|⟨i,a,b⟩⟩|⟨i,a,b,d|⟨x,d,e⟩⟩
 .exact .m0 x h a b
 .exact .c0 i h a b
 .exact .c i a b d
 exact .m i x a b d e
omit [Payload]in
def xD(a:ks K j M0 Fz Ms Fzs sz)(h:(oD K j M0 Fz Ms Fzs).read g l):∃x,Fz x/\InB x l:=by
 rcases h with⟨_,h⟩|⟨i,b,_,x,c,d⟩
 .exact h
 exact⟨x,a.sub i b x c,d⟩
omit [Payload]in
def qD{a:Nat}(h:cellC K i=cellC K a):i=a:=by
 unfold cellC at h;injection h with h;injection h
omit [Payload]in
def ks.apart(hK:K.Laws)(f:ks K j M0 Fz Ms Fzs sz):(oD K j M0 Fz Ms Fzs).Apart:=by
 refine⟨λg g' l h b=>?_,λg g' l h b=>?_,λg l h b=>?_,λg l h b=>?_,λg l h b=>?_,λg l h b=>?_,λl h b=>?_⟩
 .have p:∀{x:Nat}{i:Nat},InB x (cellC K i)->x=K.C:=λh=>h.inj (qb _);cases lV h with
  |m0 x e a d=>
   cases lV b with
   |m0=>omega
   |c0=>omega
   |c i _ _ n=>subst n;exact absurd (p d) (f.m0 x a).2.1
   |m i y o _ n q=>obtain rfl:=d.inj q;exact absurd a (f.ms i o _ n).2.1
  |c0 i e a d=>
   cases lV b with
   |m0=>omega
   |c0=>omega
   |c r n _ q=>subst d;have:=qD q;omega
   |m r y o _ n q=>subst d;exact absurd (p q) (f.ms r o _ n).2.2.1
  |c i o e a=>
   cases lV b with
   |m0 x _ d n=>subst a;exact absurd (p n) (f.m0 x d).2.1
   |c0 r _ d n=>subst a;have:=qD n;omega
   |c r _ w n=>subst a;have:=qD n;omega
   |m r y u _ n q=>subst a;exact absurd (p q) (f.ms r u _ n).2.2.1
  |m i x o e a d=>
   cases lV b with
   |m0 y _ n q=>obtain rfl:=d.inj q;exact absurd n (f.ms i o _ a).2.1
   |c0 r _ _ n=>subst n;exact absurd (p d) (f.ms i o _ a).2.2.1
   |c r _ _ n=>subst n;exact absurd (p d) (f.ms i o _ a).2.2.1
   |m r y u w n q=>
    obtain rfl:=d.inj q;by_cases v:i=r
    .subst v;omega
    exact absurd n (f.mm i r o u v _ a)
 all_goals have p:∀{x:Nat}{i:Nat},InB x (cellC K i)->x=K.C:=λh=>h.inj (qb _)
 .obtain⟨y,s,t⟩:=xD f b;cases lV h with
  |m0 x e a d=>obtain rfl:=d.inj t;exact(f.m0 _ a).1 s
  |c0 i _ _ a=>subst a;exact(f.fz _ s).1 (p t)
  |c i _ _ a=>subst a;exact(f.fz _ s).1 (p t)
  |m i x o e a d=>obtain rfl:=d.inj t;exact(f.ms i o _ a).1 s
 .change InB K.E l at b;cases lV h with
  |m0 x e a d=>exact(f.m0 _ a).2.2.1 (d.inj b)
  |c0 i _ _ a=>subst a;exact hK.ec (p b)
  |c i _ _ a=>subst a;exact hK.ec (p b)
  |m i x o e a d=>exact(f.ms i o _ a).2.2.2.1 (d.inj b)
 .have b:InB K.Wg l:=o3 b;cases lV h with
  |m0 x e a d=>exact(f.m0 _ a).2.2.2.1 (d.inj b)
  |c0 i _ _ a=>subst a;exact hK.cw (p b).symm
  |c i _ _ a=>subst a;exact hK.cw (p b).symm
  |m i x o e a d=>exact(f.ms i o _ a).2.2.2.2.1 (d.inj b)
 .obtain⟨y,s,t⟩:=xD f h;exact(f.fz _ s).2.1 (t.inj b)
 .obtain⟨y,s,t⟩:=xD f h;exact(f.fz _ s).2.2.1 (t.inj (o3 b))
 exact hK.ew ((show InB K.E l from h).inj (o3 b))
omit [Payload]in
def ks.grow(a:ks K j M0 Fz Ms Fzs sz)(o:sz<=sz')(d:∀x,M0' x->M0 x\/(sz<=x/\x<sz')):ks K j M0' Fz Ms Fzs sz':=by
 have:=a.c;have:=a.e;have:=a.wg;refine⟨λx b=>?_,λi f x b=>?_,a.mm,λx b=>?_,a.sub,oM,oM,oM⟩
 .rcases d x b with h|h
  .have:=a.m0 x h;exact⟨this.1,this.2.1,this.2.2.1,this.2.2.2.1,oM⟩
  exact⟨λm=>by have:=(a.fz x m).2.2.2;omega,oM,oM,oM,h.2⟩
 .have:=a.ms i f x b;refine⟨this.1,λn=>?_,this.2.2.1,this.2.2.2.1,this.2.2.2.2.1,oM⟩;rcases d x n with h|h
  .exact this.2.1 h
  omega
 have:=a.fz x b;exact⟨this.1,this.2.1,this.2.2.1,oM⟩
omit [Payload]in
def ks.growW(a:ks K j M0 Fz Ms Fzs sz)(v:sz<=sz')(u:∀x,M' x->(Ms i x)\/(sz<=x/\x<sz')):ks K j M0 Fz (upd Ms i M') Fzs sz':=by
 have:=a.c;have:=a.e;have:=a.wg;have old:∀d,d<j->∀x,(upd Ms i M') d x->Ms d x\/(d=i/\sz<=x/\x<sz'):=by
  intro d f x b;by_cases e:d=i
  .subst e;rw[aaN]at b;exact(u x b).imp id λh=>⟨rfl,h⟩
  rw[abK Ms _ e]at b;exact .inl b
 refine⟨λx b=>?_,λd f x b=>?_,λn o p q m x b r=>?_,λx b=>?_,a.sub,oM,oM,oM⟩
 .have:=a.m0 x b;exact⟨this.1,this.2.1,this.2.2.1,this.2.2.2.1,oM⟩
 .rcases old d f x b with h|⟨_,h⟩
  .have:=a.ms d f x h;exact⟨this.1,this.2.1,this.2.2.1,this.2.2.2.1,this.2.2.2.2.1,oM⟩
  exact⟨λs=>by have:=(a.fz x s).2.2.2;omega,λs=>by have:=(a.m0 x s).2.2.2.2;omega,oM,oM,oM,h.2⟩
 .rcases old n p x b with h|⟨rfl,h⟩<;>rcases old o q x r with t|⟨rfl,t⟩
  .exact a.mm n o p q m x h t
  .have:=(a.ms n p x h).2.2.2.2.2;omega
  .have:=(a.ms o q x t).2.2.2.2.2;omega
  exact m rfl
 have:=a.fz x b;exact⟨this.1,this.2.1,this.2.2.1,oM⟩
end
section
variable{K:bW}{j i i':Nat}{M0 Fz:Nat->Prop}{Ms Fzs:Nat->Nat->Prop}{w w':AK}{es:Array Nc}
omit [Payload]in
def dj{a:E1}{Wg:Nat}(h:WgLive a Wg w)(e:w'.heap[Wg]?=w.heap[Wg]?):WgLive a Wg w':=by
 obtain⟨st,b,h⟩:=h;exact⟨st,b,h.of_block e⟩
def cG{C n:Nat}(h:PayAt C n w)(e:w'.heap[C]?=w.heap[C]?):PayAt C n w':=by
 obtain⟨cs,a,b⟩:=h;exact⟨cs,e.trans a,b⟩
def rM(hK:K.Laws){j:Nat}(h:vh K j w)(e:w'.heap[K.C]?=w.heap[K.C]?)(f:w'.heap[K.E]?=w.heap[K.E]?):vh K j w':=
 ⟨cG h.1 e,hK.fok _ _ h.2.1 (hK.flE _ _ f),λi a b=>(ZQ e i).trans (h.2.2 i a b)⟩
def DK.to(a:ks K j M0 Fz Ms Fzs w)(hK:K.Laws)(e:i<j)(b:i'<j)(c:i'≠i)(h:DK K i (Fzs i) (Ms i) w w' es):Rel (RK K i' (Fzs i')) (Ms i') w w':=by
 refine⟨h.tape,h.os,h.out,h.size,λx d=>?_,λx d=>?_,λn=>dj n ?_,h.pay,h.cells i' c,h.fl⟩
 .have:=a.ms i' b x d;exact h.rest x this.2.2.2.2.2 (a.mm i' i b e c x d) this.2.2.1 this.2.2.2.1
 .have:=a.sub i' b x d;have f:=a.fz x this;exact h.rest x f.2.2.2 (λm=>(a.ms i e x m).1 this) f.1 f.2.1
 exact h.rest K.Wg a.wg (λm=>(a.ms i e _ m).2.2.2.2.1 rfl) (abj hK.cw) (abj hK.ew)
def DK.to0(a:ks K j M0 Fz Ms Fzs w)(hK:K.Laws)(d:i<j)(h:DK K i (Fzs i) (Ms i) w w' es):Rel (R0 K Fz) M0 w w':=by
 refine⟨h.tape,h.os,h.out,h.size,λx b=>?_,λx b=>?_,λf=>dj f ?_⟩
 .have:=a.m0 x b;exact h.rest x this.2.2.2.2 (λc=>(a.ms i d x c).2.1 b) this.2.1 this.2.2.1
 .have e:=a.fz x b;exact h.rest x e.2.2.2 (λc=>(a.ms i d x c).1 b) e.1 e.2.1
 exact h.rest K.Wg a.wg (λc=>(a.ms i d _ c).2.2.2.2.1 rfl) (abj hK.cw) (abj hK.ew)
def D0.to(a:ks K j M0 Fz Ms Fzs w)(hK:K.Laws)(d:i'<j)(h:D0 K Fz M0 w w' es):Rel (RK K i' (Fzs i')) (Ms i') w w':=by
 have m:w'.heap[K.C]?=w.heap[K.C]?:=h.rest K.C a.c λb=>(a.m0 _ b).2.1 rfl;refine⟨h.tape,h.os,h.out,h.size,λx f=>?_,λx f=>?_,λn=>dj n ?_,λo=>cG o m,ZQ m i',hK.flE _ _ ?_⟩
 .have:=a.ms i' d x f;exact h.rest x this.2.2.2.2.2 this.2.1
 .have:=a.sub i' d x f;exact h.rest x (a.fz x this).2.2.2 λb=>(a.m0 x b).1 this
 .exact h.rest K.Wg a.wg λb=>(a.m0 _ b).2.2.2.1 rfl
 exact h.rest K.E a.e λb=>(a.m0 _ b).2.2.1 rfl
def yh(b:ks K j M0 Fz Ms Fzs w)(hK:K.Laws)(a:i'<j)(h:Conc.Aside K.Wg w w')(d:WgLive K.ty K.Wg w'):Rel (RK K i' (Fzs i')) (Ms i') w w':=by
 refine⟨h.tape,h.os,h.output,aaE h.size.symm,λx c=>?_,λx c=>?_,λ_=>d,λe=>cG e (h.block _ hK.cw),ZQ (h.block _ hK.cw) i',hK.flE _ _ (h.block _ hK.ew)⟩
 .exact h.block x (b.ms i' a x c).2.2.2.2.1
 exact h.block x (b.fz x (b.sub i' a x c)).2.2.1
omit [Payload]in
def KP(b:ks K j M0 Fz Ms Fzs w)(h:Conc.Aside K.Wg w w')(c:WgLive K.ty K.Wg w'):Rel (R0 K Fz) M0 w w':=
 ⟨h.tape,h.os,h.output,aaE h.size.symm,λx a=>h.block x (b.m0 x a).2.2.2.1,λx a=>h.block x (b.fz x a).2.2.1,λ_=>c⟩
end
structure Sn(K:bW)(Fz:Nat->Prop)(w v:AK):Prop where
 tape:v.tape=w.tape
 os:v.os=w.os
 out:v.output=w.output
 size:(w:Nat)<=v
 fz:∀x,Fz x->v.heap[x]?=w.heap[x]?
 fl:K.Fl w v
section
variable{K:bW}{j i:Nat}{M0 Fz Fz':Nat->Prop}{Ms Fzs:Nat->Nat->Prop}{w w' w₁:AK}{es:Array Nc}
omit [Payload]in
def Sn.refl(hK:K.Laws)(w:AK):Sn K Fz w w:=⟨rfl,rfl,rfl,Zo _,λ_ _=>rfl,hK.flr w⟩
omit [Payload]in
def Sn.trans(hK:K.Laws)(h:Sn K Fz w w₁)(b:∀x,Fz x->Fz' x)(k:Sn K Fz' w₁ w'):Sn K Fz w w':=
 ⟨k.tape.trans h.tape,k.os.trans h.os,k.out.trans h.out,Zz h.size k.size,λx a=>(k.fz x (b x a)).trans (h.fz x a),hK.flt _ _ _ h.fl k.fl⟩
def DK.sn(b:ks K j M0 Fz Ms Fzs w)(d:i<j)(h:DK K i (Fzs i) (Ms i) w w' es):Sn K Fz w w':=
 ⟨h.tape,h.os,h.out,h.size,λx c=>have a:=b.fz x c;h.rest x a.2.2.2 (λe=>(b.ms i d x e).1 c) a.1 a.2.1,h.fl⟩
omit [Payload]in
def D0.sn(a:ks K j M0 Fz Ms Fzs w)(hK:K.Laws)(h:D0 K Fz M0 w w' es):Sn K Fz w w':=
 ⟨h.tape,h.os,h.out,h.size,λx c=>h.rest x (a.fz x c).2.2.2 λb=>(a.m0 x b).1 c,hK.flE _ _ (h.rest K.E a.e λb=>(a.m0 _ b).2.2.1 rfl)⟩
omit [Payload]in
def EI(a:ks K j M0 Fz Ms Fzs w)(hK:K.Laws)(h:Conc.Aside K.Wg w w'):Sn K Fz w w':=
 ⟨h.tape,h.os,h.output,aaE h.size.symm,λx b=>h.block x (a.fz x b).2.2.1,hK.flE _ _ (h.block _ hK.ew)⟩
end
section
variable(P:E2)(K:bW)(Sh:Loc->Prop)
def shw(l:Loc):Prop:=Sh l\/ShN K.Wg l
structure Com(j:Nat)(gs:Array Ar)(w:AK)(t:Trace)(D:Nat->WD)(d0:Nat)(M0 Fz:Nat->Prop)(Ms Fzs:Nat->Nat->Prop)(q:Nat->Nat):Prop where
 size:gs.size=K.b+1+j
 old:∀i g,0<i->i<=K.b->gs[i]?=some g->QuitsD P (q i) (Deaf t i) g
 above:∀k,gs.size<=k->Deaf t k=0
 wk:∀i,i<j->∃g,gs[K.b+1+i]?=some g/\WK P K i (Fzs i) (Ms i) (D i).stage (D i).fuel (D i).deaf g w
 ti:TI (oD K j M0 Fz Ms Fzs) (act K j) t
 ji:JI (shw K Sh) (wks K j) t
 norel:NoRelease (stA K.Wg) t
 seen:∀op∈t,op.act.low w
 deaf0:Deaf t 0=d0
 deafW:∀i,i<j->Deaf t (K.b+1+i)=(D i).deaf
 rel:∀i,i<j->(D i).stage<=6->∃r,RelBy (stA K.Wg) t (K.b+1+i) r
 out:∀i,i<j->(D i).stage<=6->K.Out i (Ms i) w
 pay:vh K j w
 geo:ks K j M0 Fz Ms Fzs w
end
section
variable{P:E2}{K:bW}{Sh:Loc->Prop}{j:Nat}{gs:Array Ar}{w w':AK}{t:Trace}{D:Nat->WD}{d0:Nat}{M0 Fz:Nat->Prop}{Ms Fzs:Nat->Nat->Prop}{q:Nat->Nat}
def Com.at(hK:K.Laws)(h:Com P K Sh j gs w t D d0 M0 Fz Ms Fzs q)(d:Nat):Com P K Sh j gs (w.at d) t D d0 M0 Fz Ms Fzs q:=
 ⟨h.size,h.old,h.above,λi a=>let⟨g,hg,b⟩:=h.wk i a;⟨g,hg,b.rely hK ⟨rfl,rfl,rfl,Zo _,λ_ _=>rfl,λ_ _=>rfl,id,id,rfl,hK.flE _ _ rfl⟩⟩,h.ti,h.ji,h.norel,h.seen,h.deaf0,h.deafW,h.rel,
  λi a b=>hK.out i _ _ _ (h.out i a b) (λ_ _=>rfl) rfl (hK.flE _ _ rfl),rM hK h.pay rfl rfl,h.geo⟩
omit [Payload]in
def kE(h:∀e∈es,(MemAct.ofEvent e).low B):∀op∈MemOp.ofEvents g fn pos es,op.act.low B:=by
 intro op a;obtain⟨e,b,rfl⟩:=aaH a;exact h e b
def Com.oldstep(h:Com P K Sh j gs w t D d0 M0 Fz Ms Fzs q)(n:k=0\/K.b<k)(g g':Ar){u:Trace}(d:∀op∈u,op.g=k)(i:Nat)(x:Ar)(e:0<i)(f:i<=K.b)(a:((gs.map (woken P g g' w')).setIfInBounds k g')[i]?=x):QuitsD P (q i) (Deaf (t++u) i) x:=by
 rw[acm _ _ _ _ oM]at a;obtain⟨y,m,rfl⟩:=ZX.1 a;have c:=h.old i y e f m;rw[woken_quitsD c,abV t oM u d];exact c
def Com.stepW(hK:K.Laws)(h:Com P K Sh j gs w t D d0 M0 Fz Ms Fzs q)(R:i<j){g:Ar}{s' m' dd':Nat}(f:(w:Nat)<=w')
 (p:∀a,a<j->a≠i->Rel (RK K a (Fzs a)) (Ms a) w w')(C:WK P K i (Fzs i) M' s' m' dd' g' w')(s:∀x,M' x->Ms i x\/((w:Nat)<=x/\x<(w':Nat)))
 (E:∀op∈MemOp.ofEvents (K.b+1+i) fn pos es,(oD K j M0 Fz (upd Ms i M') Fzs).Ok (K.b+1+i) op)(F:JI (shw K Sh) (wks K j) (t++MemOp.ofEvents (K.b+1+i) fn pos es))
 (u:∀e∈es,(MemAct.ofEvent e).low w')(G:∀e∈es,e.loc≠.mark (.release (stA K.Wg)))(m:deafBehind (D i).deaf es=dd')
 (hrel:s'<=6->∃r,RelBy (stA K.Wg) (t++MemOp.ofEvents (K.b+1+i) fn pos es) (K.b+1+i) r)(v:s'<=6->K.Out i M' w')(y:vh K j w'):
 Com P K Sh j ((gs.map (woken P g g' w')).setIfInBounds (K.b+1+i) g') w' (t++MemOp.ofEvents (K.b+1+i) fn pos es) (upd D i ⟨s',m',dd'⟩) d0 M0 Fz (upd Ms i M') Fzs q:=by
 have N:=h.geo.growW f s;refine⟨by simp[h.size],h.oldstep (.inr oM) g g' aaR,λk O=>?_,λa c=>?_,?_,F,h.norel.app (norel_of G),?_,by rw[abV t oM _ aaR,h.deaf0],λa c=>?_,λa c d=>?_,λa c d=>?_,y,N⟩
 .simp only[abk,adp]at O;have:=h.size;rw[abV t (g':=K.b+1+i) oM _ aaR];exact h.above k O
 .by_cases e:a=i
  .subst e;exact⟨g',acV _ _ _ (by rw[h.size];omega),by rw[aaN,aaN];exact C⟩
  obtain⟨x,Q,z⟩:=h.wk a c;refine⟨x,by rw[acm _ _ _ _ oM,Q,aaJ,z.woken hK],?_⟩;rw[abK D _ e,abK Ms _ e];exact z.rely hK (p a c e)
 .refine(h.ti.turn (T':=oD K j M0 Fz (upd Ms i M') Fzs) (A':=act K j) (λ_ h=>h) (λ_ h=>h) (λg l _ H=>?_) (λg l _ n=>.inl n) λ_ h=>h).app (N.apart hK) E λop A x Q=>?_
  .rcases H with H|⟨a,I,J,o|⟨x,o,L⟩⟩
   .exact .inl (.inl H)
   .exact .inl (.inr ⟨a,I,J,.inl o⟩)
   by_cases e:a=i
   .subst e;rw[aaN]at o;rcases s x o with M|M
    .exact .inl (.inr ⟨a,I,J,.inr ⟨x,M,L⟩⟩)
    exact .inr (pM h.seen M.1 L)
   rw[abK Ms _ e]at o;exact .inl (.inr ⟨a,I,J,.inr ⟨x,o,L⟩⟩)
  exact .inr ⟨i,R,rfl⟩
 .exact seen_app (λop A=>aeM f (h.seen op A)) (kE u)
 .by_cases e:a=i
  .subst e;rw[Deaf_own,h.deafW a c,aaN];exact m
  rw[abV t oM _ aaR,h.deafW a c,abK D _ e]
 .by_cases e:a=i
  .subst e;rw[aaN]at d;exact hrel d
  rw[abK D _ e]at d;obtain⟨r,n⟩:=h.rel a c d;exact⟨r,n.appOther aaR oM⟩
 by_cases e:a=i
 .subst e;rw[aaN]at d;rw[aaN];exact v d
 rw[abK D _ e]at d;rw[abK Ms _ e];have n:=p a c e;exact hK.out a _ _ _ (h.out a c d) n.mine n.more.cell n.more.fl
def Com.step0(hK:K.Laws)(h:Com P K Sh j gs w t D d0 M0 Fz Ms Fzs q){a:Ar}(b:(w:Nat)<=w')
 (m:∀i,i<j->Rel (RK K i (Fzs i)) (Ms i) w w')(n:∀x,M0' x->M0 x\/((w:Nat)<=x/\x<(w':Nat)))
 (y:∀op∈MemOp.ofEvents 0 fn pos es,(oD K j M0' Fz Ms Fzs).Ok 0 op)(o:∀e∈es,(MemAct.ofEvent e).low w')(z:∀e∈es,e.loc≠.mark (.release (stA K.Wg)))(p:vh K j w'):
 Com P K Sh j ((gs.map (woken P a a' w')).setIfInBounds 0 a') w' (t++MemOp.ofEvents 0 fn pos es) D (deafBehind d0 es) M0' Fz Ms Fzs q:=by
 have C:=h.geo.grow b n;refine⟨by simp[h.size],h.oldstep (.inl rfl) a a' aaR,λk E=>?_,λi c=>?_,?_,h.ji.app0 aaR,h.norel.app (norel_of z),?_,by rw[Deaf_own,h.deaf0],λi c=>by rw[abV t oM _ aaR,h.deafW i c],λi c d=>?_,λi c d=>?_,p,C⟩
 .simp only[abk,adp]at E;have:=h.size;rw[abV t (g':=0) oM _ aaR];exact h.above k E
 .obtain⟨x,F,s⟩:=h.wk i c;exact⟨x,by rw[acm _ _ _ _ oM,F,aaJ,s.woken hK],s.rely hK (m i c)⟩
 .refine(h.ti.turn (T':=oD K j M0' Fz Ms Fzs) (A':=act K j) (λ_ h=>h) (λ_ h=>h) (λg l _ u=>?_) (λg l _ f=>.inl f) λ_ h=>h).app (C.apart hK) y λop v x F=>.inl rfl;rcases u with⟨rfl,⟨x,H,G⟩|u⟩|u
  .rcases n x H with A|A
   .exact .inl (.inl ⟨rfl,.inl ⟨x,A,G⟩⟩)
   exact .inr (pM h.seen A.1 G)
  .exact .inl (.inl ⟨rfl,.inr u⟩)
  exact .inl (.inr u)
 .exact seen_app (λop v=>aeM b (h.seen op v)) (kE o)
 .obtain⟨r,f⟩:=h.rel i c d;exact⟨r,f.appOther aaR oM⟩
 have f:=m i c;exact hK.out i _ _ _ (h.out i c d) f.mine f.more.cell f.more.fl
def Com.slip(hK:K.Laws)(h:Com P K Sh j gs w t D d0 M0 Fz Ms Fzs q){g:Ar}(I:0<i)(J:i<=K.b)(p:∀e∈es,e.mute)(E:QuitsD P k (deafBehind (Deaf t i) es) g'):
 Com P K Sh j ((gs.map (woken P g g' w)).setIfInBounds i g') w (t++MemOp.ofEvents i fn pos es) D d0 M0 Fz Ms Fzs (upd q i k):=by
 have s:∀op∈MemOp.ofEvents i fn pos es,op.act.touch?=none:=λop a=>by obtain⟨e,m,rfl⟩:=aaH a;exact touch_mute (p e m)
 refine⟨by simp[h.size],λf x u v c=>?_,λk' A=>?_,λf d=>?_,h.ti.app (g:=i) (h.geo.apart hK) (λop a=>?_) (λop a x c=>by rw[s op a]at c;cases c),h.ji.mute s,h.norel.app (norel_of λe m C=>?_),seen_app h.seen (kE λe m=>low_mute (p e m) _),
  by rw[abV t oM _ aaR,h.deaf0],λf d=>by rw[abV t oM _ aaR,h.deafW f d],λf d z=>?_,h.out,h.pay,h.geo⟩
 .by_cases e:f=i
  .subst e;rw[acV _ _ _ (by rw[h.size];omega)]at c;obtain rfl:=ZO c;rw[aaN,Deaf_own];exact E
  rw[acm _ _ _ _ (abj e)]at c;obtain⟨y,F,rfl⟩:=ZX.1 c;have n:=h.old f y u v F;rw[woken_quitsD n,abK q _ e,abV t (abj e) _ aaR];exact n
 .simp only[abk,adp]at A;have:=h.size;rw[abV t (g':=i) oM _ aaR];exact h.above k' A
 .obtain⟨x,c,o⟩:=h.wk f d;exact⟨x,by rw[acm _ _ _ _ oM,c,aaJ,o.woken hK],o⟩
 .exact⟨aaR op a,λx c=>by rw[s op a]at c;cases c⟩
 .have:=p e m;obtain⟨G,wr,L⟩:=e;simp only at C;subst C;simp[Event.mute]at this
 obtain⟨r,H⟩:=h.rel f d z;exact⟨r,H.appOther aaR oM⟩
def Com.spawn(hK:K.Laws)(h:Com P K Sh j gs w t D 0 M0 Fz Ms Fzs q){child:Ar}{x y:MemOp}(a:x.g=0/\x.act=.go gs.size)(C:y.g=gs.size/\y.act=.start)
 (R:an P false (RK K j (λx=>Fz x\/M0 x)) (DK K j (λx=>Fz x\/M0 x)) (SR0 P K j) child (λ_=>False) w):
 Com P K Sh (j+1) ((gs.setIfInBounds 0 a').push child) w (t++#[x,y]) (upd D j ⟨7,0,0⟩) 0 (λ_=>False) (λx=>Fz x\/M0 x) (upd Ms j λ_=>False) (upd Fzs j λx=>Fz x\/M0 x) q:=by
 have E:∀op∈#[x,y],op=x\/op=y:=by intro op d;simpa using d
 have u:∀op∈#[x,y],op.act≠.mark .disable/\op.act≠.mark .enable:=by
  intro op d;rcases E op d with rfl|rfl
  .rw[a.2];exact⟨sM,sM⟩
  rw[C.2];exact⟨sM,sM⟩
 have S:=h.size;have H:∀op∈#[x,y],op.act.touch?=none:=by
  intro op d;rcases E op d with rfl|rfl
  .rw[a.2];rfl
  rw[C.2];rfl
 have F:∀i,i<gs.size->0<i->((gs.setIfInBounds 0 a').push child)[i]?=gs[i]?:=λi m I=>by
  rw[Array.getElem?_push_lt (by simpa using m),<-Z5,ZF oM]
 have o:∀{i},i<j+1->i≠j->i<j:=λf n=>oM;refine⟨by simp[h.size];omega,λi g I T v=>?_,λk U=>?_,λi m=>?_,?_,(h.ji.mono (λ_ h=>h) λg ⟨i,f,n⟩=>⟨i,oM,n⟩).mute H,h.norel.app λop d=>?_,seen_app h.seen λop d=>?_,by rw[Deaf_still t 0 _ u,h.deaf0],λi m=>?_,λi m s=>?_,λi m s=>?_,⟨h.pay.1,h.pay.2.1,λi m=>h.pay.2.2 i oM⟩,?_⟩
 .rw[F i oM I]at v;rw[Deaf_still t _ _ u];exact h.old i g I T v
 .simp only[abe,abk]at U;rw[Deaf_still t _ _ u];exact h.above k oM
 .by_cases e:i=j
  .subst e;refine⟨child,?_,by rw[aaN,aaN,aaN];exact .inl ⟨rfl,rfl,rfl,R⟩⟩;rw[show K.b+1+i=(gs.setIfInBounds 0 a').size by simp[h.size],aej]
  obtain⟨g,v,s⟩:=h.wk i (o m e);refine⟨g,by rw[F _ (by have:=o m e;omega) oM];exact v,by rw[abK D _ e,abK Ms _ e,abK Fzs _ e];exact s⟩
 .refine h.ti.fork (k:=gs.size) (.inl rfl) a C h.deaf0 (h.above _ (Zo _)) (λg v=>?_) (λ_ h=>h) (λ_ h=>h) (λg l V=>?_) λg l J=>?_
  .rcases v with v|⟨i,f,n⟩
   .exact .inl (.inl v)
   by_cases e:i=j
   .exact .inr oM
   exact .inl (.inr ⟨i,o f e,n⟩)
  .rcases V with⟨rfl,⟨x,f,_⟩|⟨i,f,n⟩⟩|⟨i,f,n,p⟩
   .exact f.elim
   .exact .inl ⟨.inl rfl,.inl ⟨rfl,.inr ⟨i,oM,n⟩⟩⟩
   by_cases e:i=j
   .subst e;refine .inr ⟨oM,.inl ⟨rfl,.inr ⟨i,Zo _,?_⟩⟩⟩;rcases p with p|⟨x,p,_⟩
    .exact p
    rw[aaN]at p;exact p.elim
   rw[abK Ms _ e]at p;exact .inl ⟨.inr ⟨i,o f e,n⟩,.inr ⟨i,o f e,n,p⟩⟩
  have G:∀{z:Nat},(Fz z\/M0 z)->InB z l->(oD K j M0 Fz Ms Fzs).read 0 l\/(oD K j M0 Fz Ms Fzs).full 0 l:=λf n=>f.elim (λf=>.inl (.inl ⟨rfl,_,f,n⟩)) λf=>.inr (.inl ⟨rfl,.inl ⟨_,f,n⟩⟩);rcases J with⟨rfl,z,f,n⟩|⟨i,f,n,z,p,O⟩
  .exact .inl ⟨.inl rfl,G f n⟩
  by_cases e:i=j
  .subst e;rw[aaN]at p;exact .inr ⟨oM,G p O⟩
  rw[abK Fzs _ e]at p;exact .inl ⟨.inr ⟨i,o f e,n⟩,.inl (.inr ⟨i,o f e,n,z,p,O⟩)⟩
 .rcases E op d with rfl|rfl
  .rw[a.2];simp
  rw[C.2];simp
 .rcases E op d with rfl|rfl
  .rw[a.2];trivial
  rw[C.2];trivial
 .rw[Deaf_still t _ _ u];by_cases e:i=j
  .subst e;rw[aaN];exact h.above _ oM
  rw[abK D _ e];exact h.deafW i (o m e)
 .by_cases e:i=j
  .subst e;rw[aaN]at s;simp at s
  rw[abK D _ e]at s;obtain⟨r,J⟩:=h.rel i (o m e) s;refine⟨r,J.appNot λop d=>?_⟩;have:=o m e;rcases E op d with rfl|rfl
  .rw[a.1];omega
  rw[C.1];omega
 .by_cases e:i=j
  .subst e;rw[aaN]at s;simp at s
  rw[abK D _ e]at s;rw[abK Ms _ e];exact h.out i (o m e) s
 have A:=h.geo;refine⟨λx a=>a.elim,λi m x a=>?_,λi Q m L M x a=>?_,λx a=>?_,λi m x a=>?_,A.c,A.e,A.wg⟩
 .by_cases e:i=j
  .subst e;rw[aaN]at a;exact a.elim
  rw[abK Ms _ e]at a;have:=A.ms i (o m e) x a;exact⟨λh=>h.elim this.1 this.2.1,id,this.2.2⟩
 .by_cases e:i=j
  .subst e;rw[aaN]at a;exact a.elim
  by_cases N:Q=j
  .subst N;rw[aaN];exact id
  rw[abK Ms _ e]at a;rw[abK Ms _ N];exact A.mm i Q (o m e) (o L N) M x a
 .rcases a with a|a
  .exact A.fz x a
  exact(A.m0 x a).2
 by_cases e:i=j
 .subst e;rw[aaN]at a;exact a
 rw[abK Fzs _ e]at a;exact .inl (A.sub i (o m e) x a)
end
end
section
open Go.Conc Go.ConcN
open Go.ConcR (KK wgBlock WgAt stA smA rd wr mk Payload DC0 Bk g_of_ofEvents ofEvent_loc_mark ofEvent_cell ofEvent_mk bk_of_mute)
variable{es:Array Nc}{g:Ar}{i:Nat}{sm' st':Int}
variable[Payload]
structure Cf where
 main:Bool
 R:AK->AK->Prop
 tr:Trans R
 Stop:Ar->(Nat->Prop)->AK->Prop
 g:Ar
 M:Nat->Prop
 w:AK
def ltC(P:E2)(y x:Cf):Prop:=y.main=x.main/\y.R=x.R/\y.Stop=x.Stop/\(∃v es,Rel x.R x.M x.w v/\KC P x.main x.g v=.go y.g y.w es/\y.M=bP x.M v y.w)/\¬∀v,Rel x.R x.M x.w v->x.Stop x.g x.M v
def leC(y x:Cf):Prop:=y.main=x.main/\y.R=x.R/\y.Stop=x.Stop/\y.g=x.g/\y.M=x.M/\Rel x.R x.M x.w y.w
def ltO(P:E2)(y x:Option Cf):Prop:=∃a b,y=some a/\x=some b/\ltC P a b
def leO(y x:Option Cf):Prop:=(y=none/\x=none)\/∃a b,y=some a/\x=some b/\leC a b
omit [Payload]in
def Ph(P:E2):Ord (ltC P) leC:=by
 refine⟨λx=>⟨rfl,rfl,rfl,rfl,rfl,.refl x.tr x.M x.w⟩,λa b c h k=>?_,λz y x h k=>?_⟩
 .obtain⟨D,E,A,F,G,H,I⟩:=a;obtain⟨J,bR,B,K,L,N,O⟩:=b;obtain⟨Q,R,d,S,T,U,V⟩:=c;obtain⟨e,f,j,l,m,t⟩:=h;obtain⟨n,o,p,q,r,s⟩:=k;simp only at e f j l m n o p q r;subst e f j l m n o p q r;exact⟨rfl,rfl,rfl,rfl,rfl,s.trans d t⟩
 obtain⟨D,E,A,F,G,H,I⟩:=z;obtain⟨J,bR,B,K,L,N,O⟩:=y;obtain⟨Q,R,d,S,T,U,V⟩:=x;obtain⟨e,f,j,⟨v,es,l,m,t⟩,C⟩:=h;obtain⟨n,o,p,q,r,s⟩:=k;simp only at e f j l m t C n o p q r s;subst e f j n o p q r;exact⟨rfl,rfl,rfl,⟨v,es,s.trans d l,m,t⟩,λW=>C λu X=>W u (s.trans d X)⟩
omit [Payload]in
def ry(P:E2):Ord (ltO P) leO:=by
 refine⟨λx=>?_,λa b c h k=>?_,λz y x h k=>?_⟩
 .cases x with
  |none=>exact .inl ⟨rfl,rfl⟩
  |some x=>exact .inr ⟨x,x,rfl,rfl,(Ph P).refl x⟩
 .rcases h with⟨rfl,rfl⟩|⟨a,b,rfl,rfl,h⟩<;>rcases k with⟨d,rfl⟩|⟨e,c,d,rfl,k⟩
  .exact .inl ⟨rfl,rfl⟩
  .cases d
  .cases d
  cases d;exact .inr ⟨a,c,rfl,rfl,(Ph P).trans _ _ _ h k⟩
 obtain⟨a,b,rfl,rfl,h⟩:=h;rcases k with⟨d,_⟩|⟨e,c,d,rfl,k⟩
 .cases d
 cases d;exact⟨a,c,rfl,rfl,(Ph P).sub _ _ _ h k⟩
section
variable{P:E2}{main:Bool}{R:AK->AK->Prop}{D:(Nat->Prop)->AK->AK->Array Nc->Prop}{Stop:Ar->(Nat->Prop)->AK->Prop}{g:Ar}{M:Nat->Prop}{w:AK}
omit [Payload]in
def Bo(j:Trans R)(h:an P main R D Stop g M w):Acc (ltC P) ⟨main,R,j,Stop,g,M,w⟩:=by
 induction h with
 |stop h=>exact .intro _ λy a=>absurd h a.2.2.2.2
 |step _ _ _ k=>
  refine .intro _ λy a=>?_;obtain⟨p,q,l,r,m,s,n⟩:=y;obtain⟨b,c,d,⟨v,es,o,e,f⟩,_⟩:=a;simp only at b c d e f;subst b c d f;exact k v m n es o e
omit [Payload]in
def Bl{x:Cf}(h:Acc (ltC P) x):Acc (ltO P) x:=by
 induction h with
 |intro x _ c=>exact .intro _ λy ⟨a,b,e1,e2,hl⟩=>by cases e2;subst e1;exact c a hl
omit [Payload]in
def Bm:Acc (ltO P) none:=.intro _ λy ⟨a,b,_,e2,_⟩=>by cases e2
omit [Payload]in
def an.cases'(b:Trans R)(h:an P main R D Stop g M w):(∀v,Rel R M w v->Stop g M v)\/(g.status=.running/\∃g' w' es,KC P main g w=.go g' w' es/\D M w w' es/\an P main R D Stop g' (bP M w w') w'/\ltC P ⟨main,R,b,Stop,g',bP M w w',w'⟩ ⟨main,R,b,Stop,g,M,w⟩):=by
 by_cases e:∀v,Rel R M w v->Stop g M v
 .exact .inl e
 cases h with
 |stop h=>exact absurd h e
 |step c h k=>
  refine .inr ⟨c,?_⟩;have d:=h w (aeb b M w);cases a:KC P main g w with
  |go g' w' es=>
   rw[a]at d;exact⟨g',w',es,rfl,d,k w g' w' es (aeb b M w) a,rfl,rfl,rfl,⟨w,es,aeb b M w,a,rfl⟩,e⟩
  |_=>rw[a]at d;exact d.elim
end
def sig(tag:CTag)(x:Cf):Option Cf:=match tag with|.blk=>none|_=>some x
omit [Payload]in
def sP{tag:CTag}{x:Cf}(h:tag≠.blk):sig tag x=x:=by
 cases tag<;>first|rfl|exact absurd rfl h
section
variable(P:E2)(K:bW)(hK:K.Laws)(Sh:Loc->Prop)(AnchW Aft:Ar->(Nat->Prop)->AK->Prop)(w₀:AK)(Fz₀:Nat->Prop)
def cfg(c:Array Ar)(w:AK)(D:Nat->WD)(d a:Nat->Nat->Prop)(i:Nat):Option Cf:=
 if(D i).stage=7 then some ⟨false,RK K i (a i),aeV K hK i (a i),SR0 P K i,(c[K.b+1+i]?).getD default,d i,w⟩else none
def Dr(μ j:Nat)(X:Nat->Option Cf)(F:Nat)(σ:Option Cf)(m:Machine)(t:Trace):Prop:=
 ∃(d:Array Ar)(w:AK)(sl:Option (Nat×Nat))(D:Nat->WD)(tag:CTag)(f0 d0:Nat)(a:Ar)(st f:Int)(Fz e:Nat->Prop)(h c:Nat->Nat->Prop)(q:Nat->Nat)(Stop:Ar->(Nat->Prop)->AK->Prop),
  m=crowd d w sl/\d[0]?=a/\CS P K AnchW Aft Fz tag j d0 f0 Stop a e w/\Com P K Sh j d w t D d0 e Fz h c q/\WgAt K.ty K.Wg w st f/\ConcN.Mode j D tag st f/\
  μ=phi K.n (Vc j D) tag+Ssum j D/\X=cfg P K hK d w D h c/\F=f0+2*(Fsum j D+sumTo (K.b+1) q)/\σ=sig tag ⟨true,R0 K Fz,aeW K Fz,Stop,a,e,w⟩/\(∀x,Fz₀ x->Fz x)/\Sn K Fz₀ w₀ w
def Down(μ j:Nat)(X:Nat->Option Cf)(F:Nat)(σ:Option Cf)(m:Machine)(t:Trace):Prop:=
 ∃μ' c a b σ',Dr P K hK Sh AnchW Aft w₀ Fz₀ μ' c a b σ' m t/\(μ'<μ\/(μ'=μ/\c=j/\(LtM (ltO P) leO j a X\/(LeM leO j a X/\(b<F\/(b=F/\ltO P σ' σ))))))
end
section
variable{P:E2}{K:bW}{hK:K.Laws}{Sh:Loc->Prop}{AnchW Aft:Ar->(Nat->Prop)->AK->Prop}{w₀:AK}{Fz₀:Nat->Prop}
 {gs gs':Array Ar}{w w':AK}{sl:Option (Nat×Nat)}{j:Nat}{D D':Nat->WD}{tag:CTag}{f0 d0:Nat}{a:Ar}{t:Trace}{st sm:Int}{Fz M0:Nat->Prop}{Ms Ms' Fzs:Nat->Nat->Prop}{q:Nat->Nat}{Stop:Ar->(Nat->Prop)->AK->Prop}
def xP(c:gs'[K.b+1+i]?=gs[K.b+1+i]?)(d:D' i=D i)(e:Ms' i=Ms i)(f:Rel (RK K i (Fzs i)) (Ms i) w w'):leO (cfg P K hK gs' w' D' Ms' Fzs i) (cfg P K hK gs w D Ms Fzs i):=by
 unfold cfg;rw[d];split
 .exact .inr ⟨_,_,rfl,rfl,rfl,rfl,rfl,by simp[c],e,f⟩
 exact .inl ⟨rfl,rfl⟩
def lD(I:∀g M w,AnchW g M w->g.status=.running)
 (ha:gs[0]?=some a)(J:CS P K AnchW Aft Fz tag j d0 f0 Stop a M0 w)(f:Com P K Sh j gs w t D d0 M0 Fz Ms Fzs q)(hF:∀x,Fz₀ x->Fz x)(hS:Sn K Fz₀ w₀ w)
(y:i<j){g':Ar}{s' m' dd':Nat}{M':Nat->Prop}(hg:gs[K.b+1+i]?=some g)(L:KC P false g w=.go g' w' es)(o:(w:Nat)<=w')
 (N:Rel (R0 K Fz) M0 w w')(O:Sn K Fz w w')(z:∀c,c<j->c≠i->Rel (RK K c (Fzs c)) (Ms c) w w')(Q:WK P K i (Fzs i) M' s' m' dd' g' w')(R:∀x,M' x->Ms i x\/((w:Nat)<=x/\x<(w':Nat)))
 (S:∀op∈MemOp.ofEvents (K.b+1+i) g.frame.fn g.frame.place es,(oD K j M0 Fz (upd Ms i M') Fzs).Ok (K.b+1+i) op)(T:JI (shw K Sh) (wks K j) (t++MemOp.ofEvents (K.b+1+i) g.frame.fn g.frame.place es))
 (A:∀e∈es,(MemAct.ofEvent e).low w')(U:∀e∈es,e.loc≠.mark (.release (stA K.Wg)))(p:deafBehind (D i).deaf es=dd')
 (hrel:s'<=6->∃r,RelBy (stA K.Wg) (t++MemOp.ofEvents (K.b+1+i) g.frame.fn g.frame.place es) (K.b+1+i) r)(B:s'<=6->K.Out i M' w')(C:vh K j w')(V:WgAt K.ty K.Wg w' st' sm')
 (s:∀tag',(tag'=tag\/(tag=.blk/\tag'=.w3))->(mayWake P g->g'.status=.running->tag'≠.blk)->ConcN.Mode j (upd D i ⟨s',m',dd'⟩) tag' st' sm')
 (W:(s'<(D i).stage/\cnt ⟨s',m',dd'⟩<=cnt (D i))\/(s'=(D i).stage/\((s'=7/\m'=(D i).fuel/\ltC P ⟨false,RK K i (Fzs i),aeV K hK i (Fzs i),SR0 P K i,g',M',w'⟩ ⟨false,RK K i (Fzs i),aeV K hK i (Fzs i),SR0 P K i,g,Ms i,w⟩)\/(s'<=6/\m'+1=(D i).fuel)))):
 ∃m₁ ops,runT P (crowd gs w sl) (K.b+1+i)=(.next m₁,ops)/\Down P K hK Sh AnchW Aft w₀ Fz₀ (phi K.n (Vc j D) tag+Ssum j D) j (cfg P K hK gs w D Ms Fzs) (f0+2*(Fsum j D+sumTo (K.b+1) q)) (sig tag ⟨true,R0 K Fz,aeW K Fz,Stop,a,M0,w⟩) m₁ (t++ops):=by
 obtain⟨tag',f',E,hf',F,X⟩:=J.wokenBy I N g g';have k:tag'=tag\/(tag=.blk/\tag'=.w3):=F.imp (λh=>h.1) id;have G:=ac1 (P:=P) (sl:=sl) (i:=K.b+1+i) hg (by rw[show(K.b+1+i==0)=false by simp];exact L);have e1:=sumTo_upd D (⟨s',m',dd'⟩:WD) cnt y;have e2:=sumTo_upd D (⟨s',m',dd'⟩:WD) WD.stage y;have e3:=sumTo_upd D (⟨s',m',dd'⟩:WD) WD.fuel y;have hsz:=f.size;have u:=f.stepW hK (g:=g) y o z Q R S T A U p hrel B C;have H:∀c,c<j->c≠i->leO (cfg P K hK ((gs.map (woken P g g' w')).setIfInBounds (K.b+1+i) g') w' (upd D i ⟨s',m',dd'⟩) (upd Ms i M') Fzs c) (cfg P K hK gs w D Ms Fzs c):=λc d l=>by
  obtain⟨x,hx,Y⟩:=f.wk c d;exact xP (by rw[acm _ _ _ _ oM,hx,aaJ,Y.woken hK]) (abK D _ l) (abK Ms _ l) (z c d l)
 refine⟨_,_,G,phi K.n (Vc j (upd D i ⟨s',m',dd'⟩)) tag'+Ssum j (upd D i ⟨s',m',dd'⟩),j,_,f'+2*(Fsum j (upd D i ⟨s',m',dd'⟩)+sumTo (K.b+1) q),_,
  ⟨_,w',sl,upd D i ⟨s',m',dd'⟩,tag',f',d0,woken P g g' w' a,st',sm',Fz,M0,upd Ms i M',Fzs,q,Stop,rfl,by rw[acm _ _ _ _ oM,ha];rfl,E,u,V,s tag' k X,rfl,rfl,rfl,rfl,hF,hS.trans hK hF O⟩,?_⟩
 rw[phi_retag K.n _ k];simp only[Vc,Ssum,Fsum]at*;rcases W with⟨Z,h2⟩|⟨Z,h2⟩
 .left;have:=phi_mono K.n (v':=sumTo j λa=>cnt (upd D i ⟨s',m',dd'⟩ a)) (v:=sumTo j λa=>cnt (D a)) oM tag;omega
 have ec:cnt (⟨s',m',dd'⟩:WD)=cnt (D i):=by simp only[cnt,Z]
 have ev:(sumTo j λa=>cnt (upd D i ⟨s',m',dd'⟩ a))=sumTo j λa=>cnt (D a):=oM;have aa:(sumTo j λa=>(upd D i ⟨s',m',dd'⟩ a).stage)=sumTo j λa=>(D a).stage:=oM;rw[ev,aa];refine .inr ⟨rfl,trivial,?_⟩;rcases h2 with⟨h7,_,hl⟩|⟨h6,hf⟩
 .refine .inl ⟨i,y,?_,λc d l=>H c d l⟩;refine⟨_,_,by unfold cfg;rw[aaN,ZC h7],by unfold cfg;rw[ZC (Z▸h7)],?_⟩;rw[aaN,acV _ _ _ oM,hg];exact hl
 refine .inr ⟨λc d=>?_,.inl oM⟩;by_cases e:c=i
 .subst e;unfold cfg;rw[aaN,Zr (by simp only;omega),Zr oM];exact .inl ⟨rfl,rfl⟩
 exact H c d e
def rh(I:gs[0]?=a)(c:Com P K Sh j gs w t D d0 M0 Fz Ms Fzs q)(G:∀x,Fz₀ x->Fz x)(J:Sn K Fz₀ w₀ w)
 {a':Ar}{tag':CTag}{f':Nat}{M0':Nat->Prop}{Stop':Ar->(Nat->Prop)->AK->Prop}(u:KC P true a w=.go a' w' es)(d:(w:Nat)<=w')(v:Sn K Fz w w')
 (l:∀i,i<j->Rel (RK K i (Fzs i)) (Ms i) w w')(y:∀x,M0' x->M0 x\/((w:Nat)<=x/\x<(w':Nat)))
 (z:∀op∈MemOp.ofEvents 0 a.frame.fn a.frame.place es,(oD K j M0' Fz Ms Fzs).Ok 0 op)(o:∀e∈es,(MemAct.ofEvent e).low w')(A:∀e∈es,e.loc≠.mark (.release (stA K.Wg)))(p:vh K j w')
 (r:CS P K AnchW Aft Fz tag' j (deafBehind d0 es) f' Stop' a' M0' w')(B:WgAt K.ty K.Wg w' st' sm')(f:ConcN.Mode j D tag' st' sm')
 (C:phi K.n (Vc j D) tag'<phi K.n (Vc j D) tag\/(phi K.n (Vc j D) tag'=phi K.n (Vc j D) tag/\(f'<f0\/(f'=f0/\ltO P (sig tag' ⟨true,R0 K Fz,aeW K Fz,Stop',a',M0',w'⟩) (sig tag ⟨true,R0 K Fz,aeW K Fz,Stop,a,M0,w⟩))))):
 ∃m₁ ops,runT P (crowd gs w sl) 0=(.next m₁,ops)/\Down P K hK Sh AnchW Aft w₀ Fz₀ (phi K.n (Vc j D) tag+Ssum j D) j (cfg P K hK gs w D Ms Fzs) (f0+2*(Fsum j D+sumTo (K.b+1) q)) (sig tag ⟨true,R0 K Fz,aeW K Fz,Stop,a,M0,w⟩) m₁ (t++ops):=by
 have s:=ac1 (P:=P) (sl:=sl) (i:=0) I (by simpa using u);have k:=c.step0 hK (a:=a) (a':=a') d l y z o A p;refine⟨_,_,s,phi K.n (Vc j D) tag'+Ssum j D,j,_,f'+2*(Fsum j D+sumTo (K.b+1) q),_,
  ⟨_,w',sl,D,tag',f',deafBehind d0 es,a',st',sm',Fz,M0',Ms,Fzs,q,Stop',rfl,acV _ _ _ (by rw[c.size];omega),r,k,B,f,rfl,rfl,rfl,rfl,G,J.trans hK G v⟩,?_⟩
 rcases C with h|⟨N,E⟩
 .exact .inl oM
 refine .inr ⟨oM,rfl,.inr ⟨λi H=>?_,?_⟩⟩
 .obtain⟨x,L,F⟩:=c.wk i H;exact xP (by rw[acm _ _ _ _ oM,L,aaJ,F.woken hK]) rfl rfl (l i H)
 rcases E with E|⟨E,M⟩
 .exact .inl oM
 exact .inr ⟨oM,M⟩
def H2(L:∀x,Fz₀ x->Fz x)(N:Sn K Fz₀ w₀ w)(z:∀g M w,AnchW g M w->g.status=.running)(O:gs[0]?=a)(A:CS P K AnchW Aft Fz tag j d0 f0 Stop a M0 w)(d:Com P K Sh j gs w t D d0 M0 Fz Ms Fzs q)(B:WgAt K.ty K.Wg w st sm)(f:ConcN.Mode j D tag st sm)
(G:0<i)(H:i<=K.b)(I:gs[i]?=some g)(c:g.status=.running):
 ∃m₁ ops,runT P (crowd gs w sl) i=(.next m₁,ops)/\Down P K hK Sh AnchW Aft w₀ Fz₀ (phi K.n (Vc j D) tag+Ssum j D) j (cfg P K hK gs w D Ms Fzs) (f0+2*(Fsum j D+sumTo (K.b+1) q)) (sig tag ⟨true,R0 K Fz,aeW K Fz,Stop,a,M0,w⟩) m₁ (t++ops):=by
 have y:=d.old i g G H I;cases l:q i with
 |zero=>rw[l]at y;rw[y.1]at c;cases c
 |succ k=>
  rw[l]at y;rcases y with⟨Q,_⟩|⟨_,g',es,R,s,C⟩
  .rw[Q]at c;cases c
  have o:Rel (R0 K Fz) M0 w w:=aeb (aeW K Fz) M0 w;obtain⟨tag',f',u,S,v,T⟩:=A.wokenBy z o g g';have e:tag'=tag\/(tag=.blk/\tag'=.w3):=v.imp (λh=>h.1) id;have p:=ac1 (P:=P) (sl:=sl) (i:=i) I (by rw[show(i==0)=false by simp;omega];exact s w);have r:=d.slip hK (g:=g) (fn:=g.frame.fn) (pos:=g.frame.place) G H R C;have J:sumTo (K.b+1) (upd q i k)+(k+1)=sumTo (K.b+1) q+k:=by
   have:=sumTo_upd q k id (show i<K.b+1 by omega);simpa[l]using this
  refine⟨_,_,p,phi K.n (Vc j D) tag'+Ssum j D,j,_,f'+2*(Fsum j D+sumTo (K.b+1) (upd q i k)),_,
   ⟨_,w,sl,D,tag',f',d0,woken P g g' w a,st,sm,Fz,M0,Ms,Fzs,upd q i k,Stop,rfl,by rw[acm _ _ _ _ oM,O];rfl,u,r,B,f.retag e,rfl,rfl,rfl,rfl,L,N⟩,?_⟩
  rw[phi_retag K.n _ e];refine .inr ⟨rfl,rfl,.inr ⟨λU E=>?_,.inl oM⟩⟩;obtain⟨x,V,F⟩:=d.wk U E;exact xP (by rw[acm _ _ _ _ oM,V,aaJ,F.woken hK]) rfl rfl (aeb (aeV K hK _ _) _ _)
end
end
section
open Go.Conc Go.ConcN
open Go.ConcR (KK wgBlock WgAt stA smA rd wr mk Payload DC0 Bk g_of_ofEvents ofEvent_loc_mark ofEvent_cell ofEvent_mk bk_of_mute)
variable[Payload]
section
variable{P:E2}{K:bW}{Sh:Loc->Prop}{AnchW Aft:Ar->(Nat->Prop)->AK->Prop}{w w':AK}{j:Nat}{M0 Fz M:Nat->Prop}{Ms Fzs:Nat->Nat->Prop}{es:Array Nc}{fn:FuncId}{pos:String}{t:Trace}{g i:Nat}
omit [Payload]in
def Bd{e:Nc}{x:Touch}(h:Bk K.Wg e)(b:(MemAct.ofEvent e).touch?=x):ShN K.Wg x.loc/\x.kind=.atomic:=by
 rcases h with c|c|⟨a,wr,rfl,d⟩
 .simp only[adu c]at b;cases b
 .simp only[adu c]at b;cases b
 simp only[ack,MemAct.touch?,Zt]at b;subst b;exact⟨⟨a,rfl,d⟩,rfl⟩
omit [Payload]in
def zN(h:∀e∈es,Bk K.Wg e):∀op∈MemOp.ofEvents g fn pos es,(oD K j M0 Fz Ms Fzs).Ok g op:=by
 intro op a;obtain⟨e,b,rfl⟩:=aaH a;refine⟨rfl,λx c=>?_⟩;have:=Bd (h e b) c;exact .inr (.inr (.inr ⟨this.1,by rw[this.2];simp,λe=>by rw[this.2]at e;cases e⟩))
omit [Payload]in
def vW{B:Nat}(d:K.Wg<B)(h:∀e∈es,Bk K.Wg e):∀e∈es,(MemAct.ofEvent e).low B:=by
 intro e c;rcases h e c with b|b|⟨a,wr,rfl,f⟩
 .rw[adu b];trivial
 .rw[adu b];trivial
 rw[ack];show a.block<B;omega
omit [Payload]in
def JG{W:Nat->Prop}(h:JI (shw K Sh) W t)(b:W g)(c:∀e∈es,Bk K.Wg e):JI (shw K Sh) W (t++MemOp.ofEvents g fn pos es):=
 h.shunned b λop a=>by
  obtain⟨e,d,rfl⟩:=aaH a;exact⟨rfl,λx f=>let k:=Bd (c e d) f;⟨.inr k.1,k.2⟩⟩
omit [Payload]in
def Gg(d:i<j){Fz':Nat->Prop}{k:Nat}(h:∀e∈es,EvK K i (Fzs i) M k e):∀op∈MemOp.ofEvents (K.b+1+i) fn pos es,(oD K j M0 Fz (upd Ms i M) Fzs).Ok (K.b+1+i) op:=by
 intro op f;obtain⟨e,l,rfl⟩:=aaH f;refine⟨rfl,λx m=>?_⟩;rcases(h e l).1 x m with⟨b,a,c⟩|a|⟨⟨b,a,c⟩,n⟩|a|⟨a,c⟩
 .exact .inl (.inr ⟨i,d,rfl,.inr ⟨b,by rw[aaN];exact a,c⟩⟩)
 .exact .inl (.inr ⟨i,d,rfl,.inl a⟩)
 .exact .inr (.inl ⟨.inr ⟨i,d,rfl,b,a,c⟩,n⟩)
 .exact .inr (.inr (.inl a))
 exact .inr (.inr (.inr ⟨a,by rw[c];simp,λe=>by rw[c]at e;cases e⟩))
def Tag.bound{tag:CTag}{d f:Nat}{Stop:Ar->(Nat->Prop)->AK->Prop}(h:Tag P K AnchW Aft Fz tag j d f Stop):j+pend tag<=K.n:=by
 cases h<;>simp only[pend]<;>(try simp)<;>omega
end
section
variable{P:E2}{K:bW}{hK:K.Laws}{Sh:Loc->Prop}{AnchW Aft:Ar->(Nat->Prop)->AK->Prop}{w₀:AK}{Fz₀:Nat->Prop}
 {gs:Array Ar}{w:AK}{sl:Option (Nat×Nat)}{j:Nat}{D:Nat->WD}{tag:CTag}{f0 d0:Nat}{a:Ar}{t:Trace}{st sm:Int}{Fz M0:Nat->Prop}{Ms Fzs:Nat->Nat->Prop}{q:Nat->Nat}{Stop:Ar->(Nat->Prop)->AK->Prop}
def yT(hF:∀x,Fz₀ x->Fz x)(hS:Sn K Fz₀ w₀ w)(hAr:∀g M w,AnchW g M w->g.status=.running)
 (O:gs[0]?=some a)(ab:CS P K AnchW Aft Fz tag j d0 f0 Stop a M0 w)(c:Com P K Sh j gs w t D d0 M0 Fz Ms Fzs q)(p:WgAt K.ty K.Wg w st sm)(u:ConcN.Mode j D tag st sm)
 {i:Nat}(y:i<j){g:Ar}(hg:gs[K.b+1+i]?=some g)(Q:g.status=.running):
 ∃m₁ ops,runT P (crowd gs w sl) (K.b+1+i)=(.next m₁,ops)/\Down P K hK Sh AnchW Aft w₀ Fz₀ (phi K.n (Vc j D) tag+Ssum j D) j (cfg P K hK gs w D Ms Fzs) (f0+2*(Fsum j D+sumTo (K.b+1) q)) (sig tag ⟨true,R0 K Fz,aeW K Fz,Stop,a,M0,w⟩) m₁ (t++ops):=by
 obtain⟨g₁,hg₁,hs⟩:=c.wk i y;obtain rfl:g=g₁:=by rw[hg]at hg₁;exact ZO hg₁
 have hW:wks K j (K.b+1+i):=⟨i,y,rfl⟩;have hWg:=c.geo.wg;rcases hs with⟨h7,hm0,hd0,hG⟩|⟨h6,hs⟩
 .
  have ac:Deaf t (K.b+1+i)=0:=by rw[c.deafW i y,hd0]
  rcases hG.cases' (aeV K hK i (Fzs i))with l|⟨_,g',w',es,d,hD,hG',hl⟩
  .obtain⟨_,hout,g',d,m₂,hk⟩:=l w (aeb (aeV K hK _ _) _ _);have hnt:∀op∈MemOp.ofEvents (K.b+1+i) g.frame.fn g.frame.place #[mk (.releaseMerge (stA K.Wg))],op.act.touch?=none:=by
    intro op hop;obtain⟨e,k,rfl⟩:=aaH hop;simp at k;subst k;rfl
   refine lD hAr O ab c hF hS y (M':=Ms i) (s':=6) (m':=m₂) (dd':=0) hg d (Zo _) (aeb (aeW K Fz) _ _) (.refl hK w) (λi' _ _=>aeb (aeV K hK _ _) _ _) (.inr ⟨Zo _,.k1 hk⟩) (λx R=>.inl R)
    (λop hop=>⟨aaR op hop,λx R=>by rw[hnt op hop]at R;cases R⟩) (c.ji.mute hnt) ?_ (by intro e k;simp at k;subst k;simp[mk]) (by rw[hd0];rfl) (λ_=>⟨t.size,RelBy.new ac _ _⟩) (λ_=>hout) c.pay p
    (λ_ ht _=>(u.counted y oM (.inl rfl) _ _).retag ht) (.inl ⟨oM,by simp[cnt,h7]⟩)
   intro e k;simp at k;subst k;exact hWg
  have hnd:∀e∈es,e.loc≠.mark .disable/\e.loc≠.mark .enable:=λe k=>⟨(hD.ev e k).2.1,(hD.ev e k).2.2.1⟩;refine lD hAr O ab c hF hS y (M':=bP (Ms i) w w') (s':=7) (m':=0) (dd':=0) hg d hD.size (hD.to0 c.geo hK y) (hD.sn c.geo y) (λi' hi' hne=>hD.to c.geo hK y hi' hne) (.inl ⟨rfl,rfl,rfl,hG'⟩) (λx R=>R)
   (Gg (Fz':=Fz) y hD.ev) (c.ji.heard hW hnd ac _ _) (λe k=>(hD.ev e k).2.2.2.2) (λe k=>(hD.ev e k).2.2.2.1) (by rw[hd0];exact deafBehind_still hnd 0) (λh=>oM) (λh=>oM) ⟨hD.pay c.pay.1,hK.fok _ _ c.pay.2.1 hD.fl,λi' h1 W=>(hD.cells i' oM).trans (c.pay.2.2 i' h1 W)⟩
   (p.of_block (hD.rest K.Wg hWg (λhm=>(c.geo.ms i y _ hm).2.2.2.2.1 rfl) (abj hK.cw) (abj hK.ew))) (λ_ ht _=>ConcN.Mode.retag (by have:=u.same (i:=i) 0 0;rwa [h7]at this) ht) (.inr ⟨h7.symm,.inl ⟨rfl,hm0.symm,hl⟩⟩)
 
 generalize J:(D i).stage=s at hs;generalize hfu:(D i).fuel=m at hs;generalize hde:(D i).deaf=dd at hs;have hb:=ab.1.bound;have hVj:=Vc_le j D;have few:=hK.few;have ac:Deaf t (K.b+1+i)=dd:=by rw[c.deafW i y,hde]
 have X:∀{g':Ar}{w':AK}{es:Array Nc}{s' m' dd':Nat}{T U:Int},KC P false g w=.go g' w' es->Conc.Aside K.Wg w w'->WgAt K.ty K.Wg w' T U->(∀e∈es,Bk K.Wg e)->
  (∀A e,es[A]?=some e->(MemAct.ofEvent e).touch?=none\/0<deafBehind dd (es.extract 0 A))->WSit P K.ty K.Wg K.C K.n (λ_ _=>False) (λ_ _=>False) 0 (i+1) C0 s' m' dd' g' w'->deafBehind dd es=dd'->s'<=6->
  (∀tag',(tag'=tag\/(tag=.blk/\tag'=.w3))->(mayWake P g->g'.status=.running->tag'≠.blk)->ConcN.Mode j (upd D i ⟨s',m',dd'⟩) tag' T U)->((s'<s/\cnt ⟨s',m',dd'⟩<=cnt (D i))\/(s'=s/\m'+1=m))->
  ∃m₁ ops,runT P (crowd gs w sl) (K.b+1+i)=(.next m₁,ops)/\Down P K hK Sh AnchW Aft w₀ Fz₀ (phi K.n (Vc j D) tag+Ssum j D) j (cfg P K hK gs w D Ms Fzs) (f0+2*(Fsum j D+sumTo (K.b+1) q)) (sig tag ⟨true,R0 K Fz,aeW K Fz,Stop,a,M0,w⟩) m₁ (t++ops):=by
  intro g' w' es s' m' dd' T U d F S G hd Y hdd h6' H hlt;have hlv:WgLive K.ty K.Wg w':=⟨_,_,S⟩;refine lD hAr O ab c hF hS y (M':=Ms i) hg d (aaE F.size.symm) (KP c.geo F hlv) (EI c.geo hK F) (λi' hi' _=>yh c.geo hK hi' F hlv) (.inr ⟨h6',Y⟩) (λx R=>.inl R) (zN G) (JG c.ji hW G)
   (vW (by rw[F.size];exact hWg) G) (norel_of_Bk G) (by rw[hde];exact hdd) (λ_=>let⟨r,hr⟩:=c.rel i y oM;⟨r,hr.book ac _ _ G hd⟩)
   (λ_=>?_) (rM hK c.pay (F.block K.C hK.cw) (F.block K.E hK.ew)) S H ?_
  .have hr:=yh c.geo hK y F hlv;exact hK.out i _ _ _ (c.out i y oM) hr.mine hr.more.cell hr.more.fl
  rw[J,hfu];exact hlt.imp id λh=>⟨h.1,.inr ⟨h6',h.2⟩⟩
 have z:∀{g':Ar}{w':AK}{es:Array Nc}{s' m' dd':Nat}{T U:Int},KC P false g w=.go g' w' es->Conc.Aside K.Wg w w'->WgAt K.ty K.Wg w' T U->(∀e∈es,Bk K.Wg e)->
  (∀A e,es[A]?=some e->(MemAct.ofEvent e).touch?=none\/0<deafBehind dd (es.extract 0 A))->WSit P K.ty K.Wg K.C K.n (λ_ _=>False) (λ_ _=>False) 0 (i+1) C0 s' m' dd' g' w'->deafBehind dd es=dd'->s'<=6->
  ConcN.Mode j (upd D i ⟨s',m',dd'⟩) tag T U->((s'<s/\cnt ⟨s',m',dd'⟩<=cnt (D i))\/(s'=s/\m'+1=m))->
  ∃m₁ ops,runT P (crowd gs w sl) (K.b+1+i)=(.next m₁,ops)/\Down P K hK Sh AnchW Aft w₀ Fz₀ (phi K.n (Vc j D) tag+Ssum j D) j (cfg P K hK gs w D Ms Fzs) (f0+2*(Fsum j D+sumTo (K.b+1) q)) (sig tag ⟨true,R0 K Fz,aeW K Fz,Stop,a,M0,w⟩) m₁ (t++ops):=
  λd F S G hd Y hdd h6 H hlt=>X d F S G hd Y hdd h6 (λ_ ht _=>H.retag ht) hlt
 have N:∀{g':Ar}{m':Nat},KC P false g w=.go g' w #[]->WSit P K.ty K.Wg K.C K.n (λ_ _=>False) (λ_ _=>False) 0 (i+1) C0 s m' dd g' w->m'+1=m->s<=6->
  ∃m₁ ops,runT P (crowd gs w sl) (K.b+1+i)=(.next m₁,ops)/\Down P K hK Sh AnchW Aft w₀ Fz₀ (phi K.n (Vc j D) tag+Ssum j D) j (cfg P K hK gs w D Ms Fzs) (f0+2*(Fsum j D+sumTo (K.b+1) q)) (sig tag ⟨true,R0 K Fz,aeW K Fz,Stop,a,M0,w⟩) m₁ (t++ops):=by
  intro g' m' d Y hm h6;exact z d (.refl K.Wg w) p sM sM Y rfl h6 (by have:=u.same (i:=i) m' dd;rwa [J]at this) (.inr ⟨rfl,hm⟩)
 cases hs with
 |r0 h=>omega
 |k1 h=>
  rcases Goes.cases h with l|⟨m',rfl,o⟩
  .obtain⟨_,g',d,m₂,hk⟩:=l w (adX w);exact z d (.refl K.Wg w) p (by intro e k;simp at k;subst k;exact .inl rfl) (by intro A e k;exact .inl (by have:=ZS k;simp at this;subst this;rfl)) (.d1 hk) rfl oM
    (u.counted y oM (.inr rfl) _ _) (.inl ⟨oM,by simp[cnt,J]⟩)
  obtain⟨g',w',es,d,⟨rfl,rfl⟩,I⟩:=o w (adX w);exact N d (.k1 I) rfl oM
 |d1 h=>
  rcases Goes.cases h with l|⟨m',rfl,o⟩
  .obtain⟨_,hall⟩:=l w (adX w);(have hc1:cnt (D i)=1:=by simp[cnt,J]);(have hV1:1<=Vc j D:=by have:=le_sumTo (f:=λx=>cnt (D x)) y;simp only[Vc];omega);(have bk2:∀e∈#[rd (stA K.Wg),wr (stA K.Wg)],Bk K.Wg e:=by intro e k;simp at k;rcases k with rfl|rfl<;>exact ConcN.bk_cell _ _ rfl);have df2:∀A e,(#[rd (stA K.Wg),wr (stA K.Wg)]:Array Nc)[A]?=some e->(MemAct.ofEvent e).touch?=none\/0<deafBehind 1 ((#[rd (stA K.Wg),wr (stA K.Wg)]:Array Nc).extract 0 A):=by
    intro A e k
    match A,k with
    |0,_=>exact .inr (by simp[deafBehind])
    |1,_=>exact .inr (by simp[deafBehind,rd])
    |A+2,k=>simp at k
   have hq0:∀q,cnt (⟨1,q,1⟩:WD)=0:=λ_=>rfl;have opq:∀q,OpenSt j D->OpenSt j (upd D i ⟨1,q,1⟩):=λq h a O=>by
    by_cases e:a=i
    .subst e;rw[aaN];simp
    rw[abK D _ e];exact h a O
   cases u with
   |opn h1 W h3=>
    obtain⟨v,hv⟩:∃v,Vc j D+pend tag=v+1:=⟨Vc j D+pend tag-1,oM⟩;rw[hv]at p;(have hw1:WgAt K.ty K.Wg w (((v:Nat)+1)*KK+((0:Nat):Int)) 0:=by simpa using p);obtain⟨g',d,_,V⟩:=hall v 0 oM oM hw1;obtain⟨q,V⟩:=V oM;(have hv':Vc j (upd D i ⟨1,q,1⟩)+pend tag=v:=by have:=Vc_upd D (⟨1,q,1⟩:WD) y;have:=hq0 q;omega);refine z d (abL w (stA K.Wg) _) (p.setSt _) bk2 df2 (.quit V) rfl oM ?_ (.inl ⟨oM,by simp[cnt]⟩);(have e:((v:Nat):Int)*KK+((0:Nat):Int)=((Vc j (upd D i ⟨1,q,1⟩)+pend tag:Nat):Int)*KK:=by rw[hv'];simp);rw[e];exact .opn h1 (opq q W) (λvs ev=>by have:=h3 vs ev;omega)
   |reg h1 W h3=>
    obtain⟨v,hv⟩:∃v,Vc j D=v+1:=⟨Vc j D-1,oM⟩;rw[hv]at p;(have hp:pend tag=0:=by cases tag<;>first|rfl|exact h1.elim);(have hw1:WgAt K.ty K.Wg w (((v:Nat)+1)*KK+((1:Nat):Int)) 0:=by simpa using p);obtain⟨g',d,hl,V⟩:=hall v 1 oM oM hw1;by_cases hv0:v=0
    .subst hv0;obtain⟨m₂,hk⟩:=hl ⟨rfl,rfl⟩;refine z d (abL w (stA K.Wg) _) (p.setSt _) bk2 df2 (.d2 hk) rfl oM ?_ (.inl ⟨oM,by simp[cnt]⟩);have B:∀a,a<j->a≠i->(D a).stage=1:=λa O e=>by
      have c0:=others_uncounted y hv hc1 a O e;have:=W a O;simp only[cnt]at c0;split at c0<;>omega
     have:=ConcN.Mode.last (j:=j) (D:=upd D i ⟨4,m₂,1⟩) (tag:=tag) i h1 y (by rw[aaN];simp) (λa O e=>by rw[abK D _ e];exact B a O e);rw[aaN]at this;simpa using this
    obtain⟨q,V⟩:=V oM;(have hv':Vc j (upd D i ⟨1,q,1⟩)=v:=by have:=Vc_upd D (⟨1,q,1⟩:WD) y;have:=hq0 q;omega);refine z d (abL w (stA K.Wg) _) (p.setSt _) bk2 df2 (.quit V) rfl oM ?_ (.inl ⟨oM,by simp[cnt]⟩);(have e:((v:Nat):Int)*KK+((1:Nat):Int)=((Vc j (upd D i ⟨1,q,1⟩):Nat):Int)*KK+1:=by rw[hv'];simp);rw[e];exact .reg h1 (opq q W) oM
   |last L _ W h3 h4=>
    by_cases e:i=L
    .subst e;omega
    have:=h4 i y e;omega
   |sema W=>have:=W i y;omega
   |fin _ W=>have:=W i y;omega
  obtain⟨g',w',es,d,⟨rfl,rfl⟩,I⟩:=o w (adX w);exact N d (.d1 I) rfl oM
 |d2 h=>
  rcases Goes.cases h with l|⟨m',rfl,o⟩
  .obtain⟨_,R⟩:=l w (adX w);obtain⟨Z,B,rfl,rfl⟩:=u.isLast y oM;simp only[J]at p;obtain⟨g',d,m₂,hk⟩:=R (by simpa using p);refine z d (.refl K.Wg w) p (by intro e k;simp at k;subst k;exact ConcN.bk_cell _ _ rfl) (by intro A e k;match A,k with|0,_=>exact .inr (by simp[deafBehind])|A+1,k=>simp at k) (.d3 hk) rfl oM ?_ (.inl ⟨oM,by simp[cnt]⟩);have:=ConcN.Mode.last (j:=j) (D:=upd D i ⟨3,m₂,1⟩) (tag:=tag) i Z y (by rw[aaN];simp) (λa O e=>by rw[abK D _ e];exact B a O e);rw[aaN]at this;simpa using this
  obtain⟨g',w',es,d,⟨rfl,rfl⟩,I⟩:=o w (adX w);exact N d (.d2 I) rfl oM
 |d3 h=>
  rcases Goes.cases h with l|⟨m',rfl,o⟩
  .obtain⟨_,R⟩:=l w (adX w);obtain⟨Z,B,rfl,rfl⟩:=u.isLast y oM;simp only[J]at p;obtain⟨g',d,m₂,hk⟩:=R (by simpa using p);refine z d (abL w (stA K.Wg) _) (p.setSt 0) (by intro e k;simp at k;subst k;exact ConcN.bk_cell _ _ rfl) (by intro A e k;match A,k with|0,_=>exact .inr (by simp[deafBehind])|A+1,k=>simp at k) (.d4 hk) rfl oM ?_ (.inl ⟨oM,by simp[cnt]⟩);have:=ConcN.Mode.last (j:=j) (D:=upd D i ⟨2,m₂,1⟩) (tag:=tag) i Z y (by rw[aaN];simp) (λa O e=>by rw[abK D _ e];exact B a O e);rw[aaN]at this;simpa using this
  obtain⟨g',w',es,d,⟨rfl,rfl⟩,I⟩:=o w (adX w);exact N d (.d3 I) rfl oM
 |d4 h=>
  rcases Goes.cases h with l|⟨m',rfl,o⟩
  .obtain⟨_,hmw,R⟩:=l w (adX w);obtain⟨Z,B,rfl,rfl⟩:=u.isLast y oM;simp only[J]at p;obtain⟨g',d,q,V⟩:=R (by simpa using p);have hrun':g'.status=.running:=by
    cases q with
    |zero=>exact absurd V.2 dC
    |succ q=>exact V.elim (λx=>absurd x.2 dC) (λx=>x.1)
   refine X d (abL w (smA K.Wg) _) (p.setSm 1) (es:=semEvents (smA K.Wg)) ?_ ?_ (.quit V) (by simp[deafBehind,semEvents]) oM ?_ (.inl ⟨oM,by simp[cnt]⟩)
   .intro e k;simp[semEvents]at k;rcases k with rfl|rfl|rfl|rfl
    .exact .inl rfl
    .exact ConcN.bk_cell _ _ rfl
    .exact ConcN.bk_cell _ _ rfl
    exact .inr (.inl rfl)
   .intro A e k
    match A,k with
    |0,k=>simp[semEvents]at k;subst k;exact .inl rfl
    |1,_=>exact .inr (by simp[deafBehind,semEvents])
    |2,_=>exact .inr (by simp[deafBehind,semEvents])
    |3,k=>simp[semEvents]at k;subst k;exact .inl rfl
    |A+4,k=>simp[semEvents]at k
   intro tag' ht hw;have hnb:=hw hmw hrun';have e3:tag'=.w3:=by
    rcases ht with rfl|⟨_,rfl⟩
    .cases tag'<;>first|rfl|exact Z.elim|exact absurd rfl hnb
    rfl
   subst e3;simp only[aba];exact .sema λa O=>by
    by_cases e:a=i
    .subst e;rw[aaN]
    rw[abK D _ e];exact B a O e
  obtain⟨g',w',es,d,⟨rfl,rfl⟩,I⟩:=o w (adX w);exact N d (.d4 I) rfl oM
 |quit h=>
  cases m with
  |zero=>rw[h.1]at Q;cases Q
  |succ q=>
   rcases h with⟨hf,_⟩|⟨_,g',es,aa,o,V⟩
   .rw[hf]at Q;cases Q
   have G:∀e∈es,Bk K.Wg e:=λe k=>bk_of_mute (aa e k);have hno:∀A e,es[A]?=some e->(MemAct.ofEvent e).touch?=none\/0<deafBehind dd (es.extract 0 A):=λA e k=>.inl (touch_mute (aa e (ZS k)));exact z (o w) (.refl K.Wg w) p G hno (.quit V) rfl oM (by have:=u.same (i:=i) q (deafBehind dd es);rwa [J]at this) (.inr ⟨rfl,rfl⟩)
end
end
section
open Go.Conc Go.ConcN
open Go.ConcR (KK wgBlock WgAt stA smA rd wr mk Payload DC0 Bk g_of_ofEvents ofEvent_loc_mark ofEvent_cell ofEvent_mk bk_of_mute)
variable{F μ:Nat}
variable[Payload]
section
variable(P:E2)(K:bW)(hK:K.Laws)(Sh:Loc->Prop)(AnchW Aft:Ar->(Nat->Prop)->AK->Prop)(w₀:AK)(Fz₀:Nat->Prop)
def ou(m:Machine)(t:Trace):Prop:=
 ∃(c:Array Ar)(w:AK)(sl:Option (Nat×Nat))(a:Ar)(e Fz:Nat->Prop)(f d:Nat->Nat->Prop)(q:Nat->Nat),
  m=crowd c w sl/\Fra P (shw K Sh) w c a t q/\c.size=K.b+1+K.n/\Aft a e w/\(∀i,i<K.n->K.Out i (f i) w)/\PayAt K.C K.n w/\ks K K.n e Fz f d w/\(∀x,Fz₀ x->Fz x)/\Sn K Fz₀ w₀ w
end
section
variable{P:E2}{K:bW}{hK:K.Laws}{Sh:Loc->Prop}{AnchW Aft:Ar->(Nat->Prop)->AK->Prop}{w₀:AK}{Fz₀:Nat->Prop}
 {gs:Array Ar}{w w':AK}{sl:Option (Nat×Nat)}{j:Nat}{D:Nat->WD}{tag tag':CTag}{f0 f' d0:Nat}{a a':Ar}{t:Trace}{st sm st' sm':Int}{Fz M0:Nat->Prop}{Ms Fzs:Nat->Nat->Prop}{q:Nat->Nat}{Stop Stop':Ar->(Nat->Prop)->AK->Prop}{es:Array Nc}
def Down.up{μ₁ j₁:Nat}{X X₁:Nat->Option Cf}{F₁:Nat}{σ σ₁:Option Cf}{m:Machine}(h:Down P K hK Sh AnchW Aft w₀ Fz₀ μ j X F σ m t)(b:μ<μ₁):Down P K hK Sh AnchW Aft w₀ Fz₀ μ₁ j₁ X₁ F₁ σ₁ m t:=by
 obtain⟨μ',c,d,e,σ',f,h⟩:=h;refine⟨μ',c,d,e,σ',f,.inl ?_⟩;rcases h with h|⟨h,_⟩<;>omega
def JK(v:gs[0]?=a)(y:Tag P K AnchW Aft Fz tag j d0 f0 Stop)(k:tag≠.blk)(d:Com P K Sh j gs w t D d0 M0 Fz Ms Fzs q)(z:∀x,Fz₀ x->Fz x)(A:Sn K Fz₀ w₀ w)(p:WgAt K.ty K.Wg w st sm)(l:ConcN.Mode j D tag st sm)
 (r:KC P true a w=.go a' w' es)(f:D0 K Fz M0 w w' es)(B:an P true (R0 K Fz) (D0 K Fz) Stop a' (bP M0 w w') w')(G:ltC P ⟨true,R0 K Fz,aeW K Fz,Stop,a',bP M0 w w',w'⟩ ⟨true,R0 K Fz,aeW K Fz,Stop,a,M0,w⟩):
 ∃m₁ ops,runT P (crowd gs w sl) 0=(.next m₁,ops)/\Down P K hK Sh AnchW Aft w₀ Fz₀ (phi K.n (Vc j D) tag+Ssum j D) j (cfg P K hK gs w D Ms Fzs) (f0+2*(Fsum j D+sumTo (K.b+1) q)) (sig tag ⟨true,R0 K Fz,aeW K Fz,Stop,a,M0,w⟩) m₁ (t++ops):=by
 have H:deafBehind d0 es=d0:=deafBehind_still (λe g=>⟨(f.ev e g).2.1,(f.ev e g).2.2.1⟩) d0;refine rh v d z A (M0':=bP M0 w w') (Stop':=Stop) (tag':=tag) (f':=f0) r f.size (f.sn d.geo hK) (λi I=>f.to d.geo hK I) (λx s=>s) (λop u=>?_) (λe g=>(f.ev e g).2.2.2.2) (λe g=>(f.ev e g).2.2.2.1)
  (rM hK d.pay (f.rest K.C d.geo.c λo=>(d.geo.m0 _ o).2.1 rfl) (f.rest K.E d.geo.e λo=>(d.geo.m0 _ o).2.2.1 rfl)) (by rw[H];exact⟨y,.inl ⟨k,B⟩⟩) (p.of_block (f.rest K.Wg d.geo.wg λo=>(d.geo.m0 _ o).2.2.2.1 rfl)) l (.inr ⟨rfl,.inr ⟨rfl,?_⟩⟩)
 .obtain⟨e,g,rfl⟩:=aaH u;refine⟨rfl,λx s=>?_⟩;rcases(f.ev e g).1 x s with h|h|h
  .exact .inl (.inl ⟨rfl,.inl h⟩)
  .exact .inr (.inl ⟨.inl ⟨rfl,h.1⟩,h.2⟩)
  exact .inr (.inr (.inr ⟨h.1,h.2,λ_=>rfl⟩))
 rw[sP k,sP k];exact⟨_,_,rfl,rfl,G⟩
def gz(s:gs[0]?=a)(c:Com P K Sh j gs w t D d0 M0 Fz Ms Fzs q)(u:∀x,Fz₀ x->Fz x)(v:Sn K Fz₀ w₀ w)
 (o:KC P true a w=.go a' w' es)(d:Conc.Aside K.Wg w w')(g:WgAt K.ty K.Wg w' st' sm')(k:∀e∈es,Bk K.Wg e)(l:CS P K AnchW Aft Fz tag' j (deafBehind d0 es) f' Stop' a' M0 w')
 (f:ConcN.Mode j D tag' st' sm')(p:phi K.n (Vc j D) tag'<phi K.n (Vc j D) tag\/(phi K.n (Vc j D) tag'=phi K.n (Vc j D) tag/\f'<f0)):
 ∃m₁ ops,runT P (crowd gs w sl) 0=(.next m₁,ops)/\Down P K hK Sh AnchW Aft w₀ Fz₀ (phi K.n (Vc j D) tag+Ssum j D) j (cfg P K hK gs w D Ms Fzs) (f0+2*(Fsum j D+sumTo (K.b+1) q)) (sig tag ⟨true,R0 K Fz,aeW K Fz,Stop,a,M0,w⟩) m₁ (t++ops):=by
 have r:WgLive K.ty K.Wg w':=⟨_,_,g⟩;exact rh s c u v (M0':=M0) (Stop':=Stop') o (aaE d.size.symm) (EI c.geo hK d) (λi y=>yh c.geo hK y d r) (λx z=>.inl z) (zN k) (vW (by rw[d.size];exact c.geo.wg) k) (norel_of_Bk k)
  (rM hK c.pay (d.block K.C hK.cw) (d.block K.E hK.ew)) l g f (p.imp id λh=>⟨h.1,.inl h.2⟩)
omit [Payload]in
def mo(e:Nc)(h:Bk K.Wg e):∀x∈(#[e]:Array Nc),Bk K.Wg x:=by intro x b;simp at b;subst b;exact h
omit [Payload]in
def KW(e b:Nc)(h:Bk K.Wg e)(d:Bk K.Wg b):∀x∈(#[e,b]:Array Nc),Bk K.Wg x:=by intro x c;simp at c;rcases c with rfl|rfl<;>assumption
omit [Payload]in
def NI:∀x∈semEvents (smA K.Wg),Bk K.Wg x:=by
 intro e b;simp[semEvents]at b;rcases b with rfl|rfl|rfl|rfl
 .exact .inl rfl
 .exact ConcN.bk_cell _ _ rfl
 .exact ConcN.bk_cell _ _ rfl
 exact .inr (.inl rfl)
omit [Payload]in
def qH:Bk K.Wg (rd (stA K.Wg)):=ConcN.bk_cell _ _ rfl
omit [Payload]in
def KV:Bk K.Wg (wr (stA K.Wg)):=ConcN.bk_cell _ _ rfl
omit [Payload]in
def bk_dis:Bk K.Wg (mk .disable):=.inl rfl
omit [Payload]in
def KX:Bk K.Wg (mk .enable):=.inr (.inl rfl)
def Dx(l:gs[0]?=a)(d:Com P K Sh K.n gs w t D 1 M0 Fz Ms Fzs q)(o:∀x,Fz₀ x->Fz x)(p:Sn K Fz₀ w₀ w)(f:WgAt K.ty K.Wg w st sm)(c:ConcN.Mode K.n D .w1 st sm)
 (h:an P true (R0 K Fz) (D0 K Fz) (SW1 P K Fz AnchW Aft) a M0 w):
 ∃m₁ ops,runT P (crowd gs w sl) 0=(.next m₁,ops)/\Down P K hK Sh AnchW Aft w₀ Fz₀ (phi K.n (Vc K.n D) .w1+Ssum K.n D) K.n (cfg P K hK gs w D Ms Fzs) (0+2*(Fsum K.n D+sumTo (K.b+1) q)) (sig .w1 ⟨true,R0 K Fz,aeW K Fz,SW1 P K Fz AnchW Aft,a,M0,w⟩) m₁ (t++ops):=by
 rcases h.cases' (aeW K Fz)with hstop|⟨_,a',w',es,g,hD,hG,hl⟩
 .obtain⟨_,i⟩:=hstop w (aeb (aeW K Fz) _ _);obtain⟨s,rfl,rfl,_⟩:=c.open_inv trivial;have y:=Vc_le K.n D;have u:=hK.few;obtain⟨a',g,v,r⟩:=i (Vc K.n D) oM (by simpa[pend]using f);by_cases k:Vc K.n D=0
  .refine gz l d o p g (.refl K.Wg w) f (mo _ qH) (tag':=.ke) ⟨.ke,.inl ⟨sM,v k⟩⟩ ?_ (.inl (by simp only[phi];omega));(have e:((Vc K.n D+pend .w1:Nat):Int)*KK=0:=by rw[k];simp[pend]);rw[e];exact .fin trivial (allQuit_of s k)
  exact gz l d o p g (.refl K.Wg w) f (mo _ qH) (tag':=.w2 (Vc K.n D)) ⟨.w2,.inl ⟨sM,r k⟩⟩ (c.reopen trivial trivial rfl (λz e=>by cases e;omega)) (.inl (by simp only[phi];omega))
 exact JK l .w1 sM d o p f c g hD hG hl
def yU(hAr:∀g M w,AnchW g M w->g.status=.running)(hAn:∀Fz g M w,AnchW g M w->an P true (R0 K Fz) (D0 K Fz) (SW1 P K Fz AnchW Aft) g M w)
 (u:gs[0]?=a)(aa:CS P K AnchW Aft Fz tag j d0 f0 Stop a M0 w)(c:Com P K Sh j gs w t D d0 M0 Fz Ms Fzs q)(C:∀x,Fz₀ x->Fz x)(v:Sn K Fz₀ w₀ w)(l:WgAt K.ty K.Wg w st sm)(f:ConcN.Mode j D tag st sm)(ab:a.status=.running):
 ∃m₁ ops,runT P (crowd gs w sl) 0=(.next m₁,ops)/\(ou P K Sh Aft w₀ Fz₀ m₁ (t++ops)\/Down P K hK Sh AnchW Aft w₀ Fz₀ (phi K.n (Vc j D) tag+Ssum j D) j (cfg P K hK gs w D Ms Fzs) (f0+2*(Fsum j D+sumTo (K.b+1) q)) (sig tag ⟨true,R0 K Fz,aeW K Fz,Stop,a,M0,w⟩) m₁ (t++ops)):=by
 have p:∀{A B:Machine->Array MemOp->Prop}{r:Stepped×Array MemOp},(∃m₁ ops,r=(.next m₁,ops)/\B m₁ ops)->∃m₁ ops,r=(.next m₁,ops)/\(A m₁ ops\/B m₁ ops):=λ⟨m,o,J,N⟩=>⟨m,o,J,.inr N⟩;rcases aa.2 with⟨ac,hG⟩|⟨rfl,g,rfl,_⟩
 rotate_left
 .cases ab
 have few:=hK.few;have hVj:=Vc_le j D;have rf:Rel (R0 K Fz) M0 w w:=aeb (aeW K Fz) _ _;have hT:=aa.1;rcases hG.cases' (aeW K Fz)with hstop|⟨_,a',w',es,h,hD,hG',hl⟩
 rotate_left
 .exact p (JK u hT ac c C v l f h hD hG' hl)
 have G:=hstop w rf;cases hT with
 |@skd r O=>
  obtain⟨_,a',h,z⟩:=G;exact p (gz u c C v h (.refl K.Wg w) l (mo _ bk_dis) (tag':=.sp r 4) ⟨.sa1 O,.inl ⟨sM,z⟩⟩ (f.reopen trivial trivial rfl sM) (.inl (by simp only[phi];omega)))
 |@sa1 r O=>
  obtain⟨_,H⟩:=G;obtain⟨ho,rfl,rfl,_⟩:=f.open_inv trivial;obtain⟨a',h,z⟩:=H (Vc (K.n-(r+1)) D) oM (by simpa[pend]using l);refine p (gz u c C v h (abL w (stA K.Wg) _) (l.setSt _) (KW _ _ qH KV) (tag':=.sp r 3) ⟨.ske O,.inl ⟨sM,z⟩⟩ ?_ (.inl (by simp only[phi];omega)));have:=ConcN.Mode.opn (j:=K.n-(r+1)) (D:=D) (tag:=.sp r 3) trivial ho sM;simpa[pend]using this
 |@ske r O=>
  obtain⟨_,a',h,z⟩:=G;exact p (gz u c C v h (.refl K.Wg w) l (mo _ KX) (tag':=.sp r 2) ⟨.sgo O,.inl ⟨sM,z⟩⟩ (f.reopen trivial trivial rfl sM) (.inl (by simp only[phi];omega)))
 |@sgo r O=>
  obtain⟨_,g',child,h,hcr,hch,hnx⟩:=G;obtain⟨ho,rfl,rfl,_⟩:=f.open_inv trivial;have s:=runT_crowd_spawn (P:=P) (sl:=sl) (i:=0) u (by simpa using h);have eops:((MemOp.ofEvents 0 a.frame.fn a.frame.place #[]).push {g:=0,fn:=a.frame.fn,pos:=a.frame.place,act:=.go gs.size}|>.push {g:=gs.size,fn:=child.frame.fn,pos:=a.frame.place,act:=.start})=#[{g:=0,fn:=a.frame.fn,pos:=a.frame.place,act:=.go gs.size},{g:=gs.size,fn:=child.frame.fn,pos:=a.frame.place,act:=.start}]:=by simp[MemOp.ofEvents]
  rw[eops]at s;have d:=c.spawn hK (a':=g') (child:=child) (x:={g:=0,fn:=a.frame.fn,pos:=a.frame.place,act:=.go gs.size}) (y:={g:=gs.size,fn:=child.frame.fn,pos:=a.frame.place,act:=.start}) ⟨rfl,rfl⟩ ⟨rfl,rfl⟩ (hch c.pay);have hj:K.n-(r+1)+1=K.n-r:=oM;have ho':OpenSt (K.n-(r+1)+1) (upd D (K.n-(r+1)) ⟨7,0,0⟩):=λi Y=>by
   by_cases e:i=K.n-(r+1)
   .subst e;rw[aaN];simp
   rw[abK D _ e];exact ho i oM
  have T:Vc (K.n-(r+1)+1) (upd D (K.n-(r+1)) ⟨7,0,0⟩)=Vc (K.n-(r+1)) D+1:=by
   simp only[Vc,sumTo,aaN];have:=sumTo_upd_out D (⟨7,0,0⟩:WD) cnt (Zo (K.n-(r+1)));rw[this];rfl
  have I:Ssum (K.n-(r+1)+1) (upd D (K.n-(r+1)) ⟨7,0,0⟩)=Ssum (K.n-(r+1)) D+7:=by
   simp only[Ssum,sumTo,aaN];have:=sumTo_upd_out D (⟨7,0,0⟩:WD) WD.stage (Zo (K.n-(r+1)));rw[this]
  have hz:((gs.setIfInBounds 0 g').push child)[0]?=g':=by
   have U:=(Zq.1 u).1;rw[Array.getElem?_push_lt (by simpa using U),<-Z5,Z0 U]
  have hF':∀x,Fz₀ x->(Fz x\/M0 x):=λx Q=>.inl (C x Q);refine⟨_,_,s,.inr ?_⟩;cases r with
  |zero=>
   have hm:=ConcN.Mode.opn (j:=K.n) (D:=upd D (K.n-(0+1)) ⟨7,0,0⟩) (tag:=.kd) trivial (by have:=ho';rwa [hj]at this) sM;rw[hj]at d T I;simp only[aeC]at d T I;refine⟨_,K.n,_,_,_,⟨_,w,sl,_,.kd,0,0,g',_,_,_,_,_,_,q,_,rfl,hz,⟨.kd,.inl ⟨sM,hnx⟩⟩,d,l,?_,rfl,rfl,rfl,rfl,hF',v⟩,.inl ?_⟩
   .rw[T]at hm;simpa[pend]using hm
   rw[I,T];simp only[phi];omega
  |succ r=>
   have hm:=ConcN.Mode.opn (j:=K.n-(r+1)) (D:=upd D (K.n-(r+1+1)) ⟨7,0,0⟩) (tag:=.sp r 5) trivial (by have:=ho';rwa [hj]at this) sM;rw[hj]at d T I;refine⟨_,K.n-(r+1),_,_,_,⟨_,w,sl,_,.sp r 5,0,0,g',_,_,_,_,_,_,q,_,rfl,hz,⟨.skd oM,.inl ⟨sM,hnx⟩⟩,d,l,?_,rfl,rfl,rfl,rfl,hF',v⟩,.inl ?_⟩
   .rw[T]at hm;simpa[pend]using hm
   rw[I,T];simp only[phi];omega
 |kd=>
  obtain⟨_,a',h,z⟩:=G;exact p (gz u c C v h (.refl K.Wg w) l (mo _ bk_dis) (tag':=.anch) ⟨.anch,.inl ⟨sM,z⟩⟩ (f.reopen trivial trivial rfl sM) (.inl (by simp only[phi];omega)))
 |anch=>
  obtain⟨m₁,ops,J,N⟩:=Dx (hK:=hK) (AnchW:=AnchW) (Aft:=Aft) (sl:=sl) u c C v l (f.reopen trivial trivial rfl sM) (hAn Fz _ _ _ G);exact⟨m₁,ops,J,.inr (N.up (by simp only[phi];omega))⟩
 |w1=>exact p (Dx u c C v l f hG)
 |@w2 vs=>
  obtain⟨_,H⟩:=G;obtain⟨ho,rfl,rfl,hvs⟩:=f.open_inv trivial;obtain⟨hit,miss⟩:=H (Vc K.n D) oM (by simpa[pend]using l);obtain⟨v1,v2⟩:=hvs vs rfl;by_cases hv:Vc K.n D=vs
  .obtain⟨a',h,z⟩:=hit hv;exact p (gz u c C v h (abL w (stA K.Wg) _) (l.setSt _) (KW _ _ qH KV) (tag':=.w3) ⟨.w3,.inl ⟨sM,z⟩⟩ (.reg trivial ho oM) (.inl (by simp only[phi];omega)))
  obtain⟨a',h,z⟩:=miss hv;exact p (gz u c C v h (.refl K.Wg w) l (mo _ qH) (tag':=.anch) ⟨.anch,.inl ⟨sM,z⟩⟩ (f.reopen trivial trivial rfl sM) (.inl (by simp only[phi];omega)))
 |w3=>
  obtain⟨_,hoff,R,V⟩:=G;cases f with
  |opn J _ _=>exact J.elim
  |reg J N h3=>exact p (gz u c C v (R ⟨_,l⟩) (.refl K.Wg w) l sM (tag':=.blk) (f':=0) ⟨.blk,.inr ⟨rfl,_,rfl,hstop⟩⟩ (.reg trivial N h3) (.inr ⟨rfl,oM⟩))
  |last L J N h3 h4=>exact p (gz u c C v (R ⟨_,l⟩) (.refl K.Wg w) l sM (tag':=.blk) (f':=0) ⟨.blk,.inr ⟨rfl,_,rfl,hstop⟩⟩ (.last L trivial N h3 h4) (.inr ⟨rfl,oM⟩))
  |sema N=>
   obtain⟨a',h,z⟩:=V l;exact p (gz u c C v h (abL w (smA K.Wg) _) (l.setSm 0) NI (tag':=.w4) ⟨.w4,.inl ⟨sM,z⟩⟩ (.fin trivial N) (.inl (by simp only[phi];omega)))
  |fin J _=>exact J.elim
 |blk=>exact absurd rfl ac
 |w4=>
  obtain⟨_,Q⟩:=G;obtain⟨S,rfl,rfl⟩:=f.fin_inv trivial;obtain⟨a',h,z⟩:=Q l;exact p (gz u c C v h (.refl K.Wg w) l (mo _ qH) (tag':=.ke) ⟨.ke,.inl ⟨sM,z⟩⟩ (.fin trivial S) (.inl (by simp only[phi];omega)))
 |ke=>
  obtain⟨_,a',h,z⟩:=G;obtain⟨S,rfl,rfl⟩:=f.fin_inv trivial;exact p (gz u c C v h (.refl K.Wg w) l (mo _ KX) (tag':=.acq) ⟨.acq,.inl ⟨sM,z⟩⟩ (.fin trivial S) (.inl (by simp only[phi];omega)))
 |acq=>
  obtain⟨_,a',h,haft⟩:=G;obtain⟨S,rfl,rfl⟩:=f.fin_inv trivial;have s:=ac1 (P:=P) (sl:=sl) (i:=0) u (by simpa using h);have e1:MemOp.ofEvents 0 a.frame.fn a.frame.place #[mk (.acquire (stA K.Wg))]=#[{g:=0,fn:=a.frame.fn,pos:=a.frame.place,act:=.mark (.acquire (stA K.Wg))}]:=by rw[ofEvents_eq];simp[ofEvent_mk]
  have hy:(t++#[({g:=0,fn:=a.frame.fn,pos:=a.frame.place,act:=.mark (.acquire (stA K.Wg))}:MemOp)])[t.size]?=some {g:=0,fn:=a.frame.fn,pos:=a.frame.place,act:=.mark (.acquire (stA K.Wg))}:=sM;have hnt:∀op∈MemOp.ofEvents 0 a.frame.fn a.frame.place #[mk (.acquire (stA K.Wg))],op.act.touch?=none:=by
   intro op E;rw[e1]at E;simp only[aaX,aag]at E;subst E;rfl
  have d:=c.step0 hK (a:=a) (a':=a') (es:=#[mk (.acquire (stA K.Wg))]) (fn:=a.frame.fn) (pos:=a.frame.place) (M0':=M0) (w':=w) (Zo _) (λi _=>aeb (aeV K hK _ _) _ _) (λx Q=>.inl Q)
   (λop E=>⟨aaR op E,λx Q=>by rw[hnt op E]at Q;cases Q⟩) (by intro e he;simp at he;subst he;exact c.geo.wg) (by intro e he;simp at he;subst he;simp[mk]) c.pay
  refine⟨_,_,s,.inl ?_⟩;have hd0:Deaf (t++MemOp.ofEvents 0 a.frame.fn a.frame.place #[mk (.acquire (stA K.Wg))]) 0=0:=by rw[d.deaf0];rfl
  have W:((gs.map (woken P a a' w)).setIfInBounds 0 a')[0]?=a':=acV _ _ _ (by rw[c.size];omega);have past:Past (shw K Sh) w (t++MemOp.ofEvents 0 a.frame.fn a.frame.place #[mk (.acquire (stA K.Wg))]):=by
   refine d.ji.join (a:=stA K.Wg) (q:=t.size) (λg hg=>?_) d.norel (by rw[e1,act?_of hy]) (by rw[e1];simp[Trace.g?]) (by rw[e1];exact⟨0,by simp[Trace.g?],by rw[deaf_old (Zo _)];exact c.deaf0⟩) d.ti.nr hd0 d.seen;obtain⟨i,Y,rfl⟩:=hg;obtain⟨r,O⟩:=c.rel i Y (by rw[S i Y];omega);exact⟨r,O.appOther aaR oM,lt_of_act? O.act⟩
  let qq:Nat->Nat:=λk=>if k<=K.b then q k else(D (k-(K.b+1))).fuel
  refine⟨_,w,sl,a',M0,Fz,Ms,Fzs,qq,rfl,⟨W,⟨λi g h0 hg=>?_,d.above⟩,past⟩,d.size,haft,λi Y=>c.out i Y (by rw[S i Y];omega),c.pay.1,c.geo,C,v⟩;by_cases hb:i<=K.b
  .have:=d.old i g h0 hb hg;simp only[qq,ZC hb];exact this
  have U:i<K.b+1+K.n:=by have:=(Zq.1 hg).1;rw[d.size]at this;exact this
  obtain⟨Z,rfl⟩:∃Z,i=K.b+1+Z:=⟨i-(K.b+1),oM⟩;obtain⟨g',hg',X⟩:=d.wk Z oM;rw[hg]at hg';cases hg';simp only[qq,Zr hb,acz];rw[d.deafW Z oM];rcases X with⟨h7,_⟩|⟨_,X⟩
  .rw[S Z oM]at h7;cases h7
  exact X.quits (S Z oM)
def Hh(h:∀g M w,AnchW g M w->g.status=.running)(m:gs[0]?=a)(k:CS P K AnchW Aft Fz tag j d0 f0 Stop a M0 w)(c:Com P K Sh j gs w t D d0 M0 Fz Ms Fzs q)(hK:K.Laws):∀g∈gs,awake g:=by
 intro g n;obtain⟨i,d⟩:=aaF.1 n;rcases aaq i with rfl|o
 .rw[m]at d;cases d;rcases k.status h with⟨e,_⟩|⟨e,_⟩
  .exact awake_of (.inl e)
  exact awake_of (.inr (.inl e))
 by_cases p:i<=K.b
 .exact awake_of ((c.old i g o p d).status.elim .inl λx=>.inr (.inr x))
 have l:=(Zq.1 d).1;rw[c.size]at l;obtain⟨g',f,e⟩:=c.wk (i-(K.b+1)) oM;rw[show K.b+1+(i-(K.b+1))=i by omega,d]at f;cases f;exact awake_of ((e.status hK).elim .inl λx=>.inr (.inr x))
def Fj(e:∀g M w,AnchW g M w->g.status=.running)(m:gs[0]?=a)(f:CS P K AnchW Aft Fz tag j d0 f0 Stop a M0 w)(b:Com P K Sh j gs w t D d0 M0 Fz Ms Fzs q)(hK:K.Laws)(c:ConcN.Mode j D tag st sm):
 ∃(i:Nat)(g:Ar),gs[i]?=some g/\g.status=.running:=by
 rcases f.status e with⟨d,_⟩|⟨_,rfl⟩
 .exact⟨0,a,m,d⟩
 cases c with
 |opn h _ _=>exact h.elim
 |reg _ _ l=>
  obtain⟨i,n,p⟩:=exists_counted l;obtain⟨g,k,d⟩:=b.wk i n;exact⟨_,g,k,d.running_of hK oM⟩
 |last L _ o l _=>
  obtain⟨g,k,d⟩:=b.wk L o;exact⟨_,g,k,d.running_of hK oM⟩
 |fin h _=>exact h.elim
def qA(k:∀g M w,AnchW g M w->g.status=.running)(G:∀Fz g M w,AnchW g M w->an P true (R0 K Fz) (D0 K Fz) (SW1 P K Fz AnchW Aft) g M w)
{X:Nat->Option Cf}{σ:Option Cf}{m:Machine}(h:Dr P K hK Sh AnchW Aft w₀ Fz₀ μ j X F σ m t):
 (∀i,i<j->Acc (ltO P) (X i))/\Acc (ltO P) σ/\∃m₁ ops μ₁ X₁ F₁ σ₁,stepT P m=(.next m₁,ops)/\(ou P K Sh Aft w₀ Fz₀ m₁ (t++ops)\/Down P K hK Sh AnchW Aft w₀ Fz₀ μ₁ j X₁ F₁ σ₁ m₁ (t++ops))/\μ₁=μ/\LeM leO j X₁ X/\F₁=F/\leO σ₁ σ:=by
 obtain⟨gs,w,sl,D,tag,f0,d0,a,st,sm,Fz,M0,Ms,Fzs,q,Stop,rfl,z,p,e,H,c,rfl,rfl,rfl,rfl,I,U⟩:=h;have J:∀i,i<j->Acc (ltO P) (cfg P K hK gs w D Ms Fzs i):=by
  intro i S;unfold cfg;split
  .rename_i Y;obtain⟨g,r,V⟩:=e.wk i S;rcases V with⟨_,_,_,L⟩|⟨Z,_⟩
   .rw[r];exact Bl (Bo _ L)
   omega
  exact Bm
 have N:Acc (ltO P) (sig tag ⟨true,R0 K Fz,aeW K Fz,Stop,a,M0,w⟩):=by
  rcases p.2 with⟨O,L⟩|⟨rfl,_⟩
  .rw[sP O];exact Bl (Bo _ L)
  exact Bm
 refine⟨J,N,?_⟩;obtain⟨i,g,d,s,r,l,u⟩:=crowd_pick (P:=P) (w:=w) (sl:=sl) (Hh k z p e hK) (Fj k z p e hK c);rw[u];have A:Rel (R0 K Fz) M0 w (w.at d):=⟨rfl,rfl,rfl,Zo _,λ_ _=>rfl,λ_ _=>rfl,id⟩;have Q:∀i,Rel (RK K i (Fzs i)) (Ms i) w (w.at d):=λi=>⟨rfl,rfl,rfl,Zo _,λ_ _=>rfl,λ_ _=>rfl,id,id,rfl,hK.flE _ _ rfl⟩;have n:=p.rely A;have f:=e.at hK d;have o:WgAt K.ty K.Wg (w.at d) st sm:=H;have v:Sn K Fz₀ w₀ (w.at d):=U.trans hK (λ_ h=>h) (⟨rfl,rfl,rfl,Zo _,λ_ _=>rfl,hK.flE _ _ rfl⟩:Sn K Fz₀ w (w.at d));have x:LeM leO j (cfg P K hK gs (w.at d) D Ms Fzs) (cfg P K hK gs w D Ms Fzs):=λi S=>xP rfl rfl rfl (Q i);have y:leO (sig tag ⟨true,R0 K Fz,aeW K Fz,Stop,a,M0,w.at d⟩) (sig tag ⟨true,R0 K Fz,aeW K Fz,Stop,a,M0,w⟩):=by
  by_cases B:tag=.blk
  .subst B;exact .inl ⟨rfl,rfl⟩
  rw[sP B,sP B];exact .inr ⟨_,_,rfl,rfl,rfl,rfl,rfl,rfl,rfl,A⟩
 rcases aaq i with rfl|W
 .rw[z]at r;cases r;obtain⟨m₁,ops,C,E⟩:=yU (hK:=hK) (sl:=s) k G z n f I v o c l;exact⟨m₁,ops,_,_,_,_,C,E,rfl,x,rfl,y⟩
 by_cases B:i<=K.b
 .obtain⟨m₁,ops,C,E⟩:=H2 (hK:=hK) (sl:=s) I v k z n f o c W B r l;exact⟨m₁,ops,_,_,_,_,C,.inr E,rfl,x,rfl,y⟩
 have R:=(Zq.1 r).1;rw[e.size]at R;obtain⟨T,rfl⟩:∃T,i=K.b+1+T:=⟨i-(K.b+1),oM⟩;obtain⟨m₁,ops,C,E⟩:=yT (hK:=hK) (sl:=s) I v k z n f o c oM r l;exact⟨m₁,ops,_,_,_,_,C,.inr E,rfl,x,rfl,y⟩
def G4(e:∀g M w,AnchW g M w->g.status=.running)(f:∀Fz g M w,AnchW g M w->an P true (R0 K Fz) (D0 K Fz) (SW1 P K Fz AnchW Aft) g M w):
 ∀(μ:Nat)(j:Nat)(X:Nat->Option Cf)(F:Nat)(σ:Option Cf)(m:Machine)(t:Trace),Dr P K hK Sh AnchW Aft w₀ Fz₀ μ j X F σ m t->∃N m' b,runNT P N m t=(.next m',b)/\ou P K Sh Aft w₀ Fz₀ m' b:=by
 intro μ;induction μ using Nat.strongRecOn with
 |_ μ vμ=>
  intro j X₀ F₀ σ₀ m₀ t₀ h₀;have n:=Bn (ry P) j X₀ (qA e f h₀).1 X₀ λi _=>(ry P).refl _;have main:∀Y,Acc (LtM (ltO P) leO j) Y->∀(F:Nat)(X:Nat->Option Cf)(σ:Option Cf)(m:Machine)(t:Trace),LeM leO j X Y->Dr P K hK Sh AnchW Aft w₀ Fz₀ μ j X F σ m t->∃N m' b,runNT P N m t=(.next m',b)/\ou P K Sh Aft w₀ Fz₀ m' b:=by
   intro Y L;induction L with
   |intro Y _ x=>
    intro F;induction F using Nat.strongRecOn with
    |_ F y=>
     have z:∀σ,Acc (ltO P) σ->∀(σ':Option Cf),leO σ' σ->∀(X:Nat->Option Cf)(m:Machine)(t:Trace),LeM leO j X Y->Dr P K hK Sh AnchW Aft w₀ Fz₀ μ j X F σ' m t->∃N m' b,runNT P N m t=(.next m',b)/\ou P K Sh Aft w₀ Fz₀ m' b:=by
      intro σ hσ;induction hσ with
      |intro σ _ vσ=>
       intro σ' hσσ X m t A hI;obtain⟨_,_,m₁,ops,μ₁,X₁,F₁,σ₁,I,o,rfl,hX₁,rfl,hσ₁⟩:=qA e f hI;rcases o with O|⟨μ',Q,p,J,σ₂,d,c⟩
       .exact⟨1,m₁,_,by simp only[runNT,I],O⟩
       have B:(∃N m' b,runNT P N m₁ (t++ops)=(.next m',b)/\ou P K Sh Aft w₀ Fz₀ m' b)->∃N m' b,runNT P N m t=(.next m',b)/\ou P K Sh Aft w₀ Fz₀ m' b:=λ⟨N,m',b,C,E⟩=>⟨N+1,m',b,by simp only[runNT,I];exact C,E⟩;apply B;have l:∀i,i<j->leO (X₁ i) (Y i):=λi r=>(ry P).trans _ _ _ (hX₁ i r) (A i r);rcases c with c|⟨rfl,rfl,c⟩
       .exact vμ μ' c _ _ _ _ _ _ d
       rcases c with⟨i,r,C,E⟩|⟨G,c⟩
       .refine x p ⟨i,r,(ry P).sub _ _ _ C (l i r),λk s H=>(ry P).trans _ _ _ (E k s H) (l k s)⟩ J p σ₂ _ _ (λk _=>(ry P).refl _) d
       have u:LeM leO Q p Y:=λk s=>(ry P).trans _ _ _ (G k s) (l k s);rcases c with c|⟨rfl,c⟩
       .exact y J c p σ₂ _ _ u d
       exact vσ σ₂ ((ry P).sub _ _ _ ((ry P).sub _ _ _ c hσ₁) hσσ) σ₂ ((ry P).refl _) p _ _ u d
     intro X σ m t A hI;exact z σ (qA e f hI).2.1 σ ((ry P).refl _) X m t A hI
  exact main X₀ n F₀ X₀ σ₀ m₀ t₀ (λi _=>(ry P).refl _) h₀
end
end
section
open Go.Conc Go.ConcN Go.RowKit Go.Conc.Lib Go.ConcR.Gen Go.ConcN.Gen
open Go.ConcR (KK wgBlock WgAt stA smA rd wr mk Payload DC0)
variable[Payload]{L:WgLink}
section
variable{P:E2}{main:Bool}{R1 R2:AK->AK->Prop}{D:AK->AK->Array Nc->Prop}{S1 S2:Ar->AK->Prop}{x:Nc}
omit [Payload]in
def uh(l:∀a b c,R2 a b->R2 b c->R2 a c)(o:∀w,R2 w w)(p:∀w v,R1 w v->R2 w v)(j:∀g w,S2 g w->∃g',KC P main g w=.go g' w #[x]):
 ∀{n m:Nat}{g:Ar}{w:AK},Goes P main R1 DC0 S1 n g w->Goes P main R2 D S2 m g w->Goes P main R1 DC0 (λg w=>S1 g w/\∃m,Goes P main R2 D S2 m g w) n g w
 |0,m,g,w,h,k=>λv f=>⟨h v f,m,k.rely l (p _ _ f)⟩
 |n+1,m,g,w,h,k=>by
  rcases h with h|⟨r,h⟩
  .exact .inl λv f=>⟨h v f,m,k.rely l (p _ _ f)⟩
  refine .inr ⟨r,λv f=>?_⟩;have q:=h v f;have i:=k.rely l (p _ _ f);cases d:KC P main g v with
  |go g' v' es=>
   rw[d]at q;obtain⟨⟨rfl,rfl⟩,u⟩:=q;have s:¬S2 g v':=λr=>by
    obtain⟨y,e⟩:=j g v' r;rw[d]at e;injection e with _ _ e;simp at e
   refine⟨⟨rfl,rfl⟩,?_⟩;cases m with
   |zero=>exact absurd (i v' (o v')) s
   |succ m=>
    rcases i with i|⟨_,i⟩
    .exact absurd (i v' (o v')) s
    have t:=i v' (o v');rw[d]at t;exact uh l o p j u t.2
  |_=>rw[d]at q;exact q.elim
omit [Payload]in
def qZ(h:∀g w,S1 g w->S2 g w):∀{n:Nat}{g:Ar}{w:AK},Goes P main R1 D S1 n g w->Goes P main R1 D S2 n g w
 |0,g,w,k=>λv a=>h _ _ (k v a)
 |n+1,g,w,k=>by
  rcases k with k|⟨b,k⟩
  .exact .inl λv a=>h _ _ (k v a)
  refine .inr ⟨b,λv a=>?_⟩;have c:=k v a;revert c;cases KC P main g v<;>simp only[GStep.goes,aem];exact λ⟨d,k⟩=>⟨d,qZ h k⟩
omit [Payload]in
def tN(b:∀w,R1 w w):∀{n:Nat}{g:Ar}{w:AK},Goes P main R1 D S1 n g w->∃g w,S1 g w
 |0,g,w,h=>⟨g,w,h w (b w)⟩
 |n+1,g,w,h=>by
  rcases h with h|⟨_,h⟩
  .exact⟨g,w,h w (b w)⟩
  have c:=h w (b w);cases a:KC P main g w with
  |go g' w' es=>rw[a]at c;exact tN b c.2
  |_=>rw[a]at c;exact c.elim
end
section
variable{P:E2}{K:bW}{Fz M:Nat->Prop}{i:Nat}{val:Aq}{c:K0}{cs:List K0}{qt:Nat}
def SR'(P:E2)(K:bW)(i:Nat)(val:Aq)(g:Ar)(w:AK):Prop:=
 g.status=.running/\Has K.C i val w/\∃g',KC P false g w=.go g' w #[mk (.releaseMerge (stA K.Wg))]/\∃m,Goes P false (RW K.ty K.Wg K.C K.n 0 i) DC0 (AtK1 P K.ty K.Wg K.C K.n 0 (i+1)) m g' w
def Au(K:bW)(i:Nat)(val:Aq)(w:AK):Prop:=WgLive K.ty K.Wg w/\Has K.C i val w
def Au.rely{w v:AK}(h:Au K i val w)(r:Rel (RK K i Fz) M w v):Au K i val v:=⟨r.more.live h.1,r.more.cell.trans h.2⟩
def UF(hK:K.Laws)(H:WgLib P L)(j:K.ty=L.tWg)(t:c.mode=.returning)(I:QuitsD P qt 0 (G c cs))(w:AK)(d:WgLive K.ty K.Wg w/\Has K.C i val w):
 Goes P false (Rel (RK K i Fz) M) DC0 (SR' P K i val) 60 (G ((baseD L.done).at ⟨#[pT K.Wg 0,C0,C0,C0],[]⟩ [.code (body_done L)]) (c::cs)) w:=by
 have s:=doneN (P:=P) H (Own:=λ_ _=>False) (Rd:=λ_ _=>False) (Wg:=K.Wg) (C:=K.C) (n:=K.n) (Low:=0) (k:=i+1) (val:=val) t I w (by rw[<-j];exact d);have x:∀a b c,RW L.tWg K.Wg K.C K.n 0 (i+1-1) a b->RW L.tWg K.Wg K.C K.n 0 (i+1-1) b c->RW L.tWg K.Wg K.C K.n 0 (i+1-1) a c:=λ_ _ _ h k=>h.trans k;have y:∀w v,Rel (RK K i Fz) M w v->RW L.tWg K.Wg K.C K.n 0 (i+1-1) w v:=λw v r=>by have:=r.more.rw';rw[j]at this;exact this
 have l:∀g w,AtR0 P L.tWg K.Wg K.C K.n 0 (i+1) val g w->∃g',KC P false g w=.go g' w #[mk (.releaseMerge (stA K.Wg))]:=λg w h=>by obtain⟨_,_,g',h,_⟩:=h;exact⟨g',h⟩
 have own:Goes P false (Rel (RK K i Fz) M) DC0 (λg w=>g.status=.running/\Au K i val w/\∃g',KC P false g w=.go g' w #[mk (.releaseMerge (stA K.Wg))]/\Goes P false (Rel (RK K i Fz) M) DC0 (λg w=>∃g',KC P false g w=.go g' w #[mk .disable]) 10 g' w) 60
  (G ((baseD L.done).at ⟨#[pT K.Wg 0,C0,C0,C0],[]⟩ [.code (body_done L)]) (c::cs)) w:=by
  clear s
  lib_facts
  have f:∀{w v:AK},WgLive L.tWg K.Wg w/\Has K.C i val w->Rel (RK K i Fz) M w v->WgLive L.tWg K.Wg v/\Has K.C i val v:=λh r=>by have:=Au.rely (K:=K) (by unfold Au;rw[j];exact h) r;unfold Au at this;rwa [j]at this
  rw[j]at d;simp only[body_done,doneFn,ZR]
  u_reg f d
  u_op f d
  u_call H.f_add (nm_add L) addFn f d
  u_c ZH f d
  u_cond true f d
  u_c ZH f d
  u_c ZH f d
  u_reg f d
  u_op f d
  u_op f d
  u_c Zw f d
  u_cond true f d
  u_reg f d
  u_op f d
  u_conv H.underlying_tWgP H.room_tWg (WgLive.cell0 d.1).choose_spec f d
  refine abg (λw₁ h₁=>?_);replace d:=f d h₁;clear h₁;refine⟨rfl,by unfold Au;rw[j];exact d,_,adV .releaseMerge sM rfl rfl (by k_ne) rfl H.f_relMerge (x_relMerge_n L) (x_relMerge_b L) (x_relMerge_x L) (x_relMerge_f L) (by simp[Act.eval,stA]),?_⟩
  walk_nrm
  u_c Zw f d
  u_c ZH f d
  u_reg f d
  exact abg λw₁ h₁=>⟨_,aea .disable sM rfl rfl (by k_ne) rfl H.f_disable (x_disable_n L) (x_disable_b L) (x_disable_x L) (x_disable_f L)⟩
 refine qZ (λg w ⟨⟨J,h2,g',h3,h4⟩,m,p⟩=>?_) (uh x (λw=>.refl w) y l own s);have stop:AtR0 P L.tWg K.Wg K.C K.n 0 (i+1) val g w->SR' P K i val g w:=λh=>by
  obtain⟨_,_,u,e,z⟩:=h;rw[<-j]at z;exact⟨J,h2.2,u,e,z⟩
 cases m with
 |zero=>exact stop (p w (.refl w))
 |succ m=>
  rcases p with p|⟨_,p⟩
  .exact stop (p w (.refl w))
  exfalso;have A:=p w (.refl w);rw[h3]at A;obtain⟨u,o,⟨O,B⟩,D,q⟩:=tN (λw=>aeb (aeV K hK i Fz) M w) (uh x (λw=>.refl w) y l h4 A.2);have E:¬AtR0 P L.tWg K.Wg K.C K.n 0 (i+1) val u o:=λN=>by
   obtain⟨Q,e⟩:=l _ _ N;rw[B]at e;injection e with _ _ e;simp[mk]at e
  cases D with
  |zero=>exact E (q o (.refl o))
  |succ D=>
   rcases q with q|⟨_,q⟩
   .exact E (q o (.refl o))
   have F:=q o (.refl o);rw[B]at F;exact(F.1.2 (mk .disable) sM).2.1 rfl
end
end
section
open Go.Conc
abbrev link:Go.Conc.Lib.WgLink:={add:=52,done:=54,wait:=56,relMerge:=72,disable:=73,enable:=74,inBubble:=75,associate:=76,fatal:=77,uOr:=78,uAdd:=79,raceRead:=80,uLoad:=81,uStore:=82,disassociate:=83,semrelease:=84,acquire:=86,isAssociated:=87,uCas:=88,raceWrite:=89,semacquire:=90,orU64:=105,addU64:=106,loadU64:=107,storeU64:=108,casU64:=109,tWgP:=124,tUP:=126,tAssoc:=127,tWg:=102,tAU:=100,tU64:=26,tUint:=64,tU32:=74,tPU32:=130,tPAU:=154,tPU64:=156,tNoCopy:=97,tANoCopy:=73,tAlign64:=98}
def vk:Go.Conc.Lib.WgLib prog link:=
 ⟨func52,func54,func56,func72,func73,func74,func75,func76,func77,func78,func79,func80,func81,func82,func83,func84,func86,func87,func88,func89,func90,func105,func106,func107,func108,func109,underlying124,runUnderlying124,sizeOf124,isAgg124,zeroValue124,underlying126,runUnderlying126,sizeOf126,isAgg126,zeroValue126,underlying127,runUnderlying127,sizeOf127,isAgg127,zeroValue127,underlying102,runUnderlying102,sizeOf102,isAgg102,zeroValue102,underlying100,runUnderlying100,sizeOf100,isAgg100,zeroValue100,underlying26,runUnderlying26,sizeOf26,isAgg26,zeroValue26,underlying64,runUnderlying64,sizeOf64,isAgg64,zeroValue64,underlying74,runUnderlying74,sizeOf74,isAgg74,zeroValue74,underlying130,runUnderlying130,sizeOf130,isAgg130,zeroValue130,underlying154,runUnderlying154,sizeOf154,isAgg154,zeroValue154,underlying156,runUnderlying156,sizeOf156,isAgg156,zeroValue156,underlying0,runUnderlying0,sizeOf0,isAgg0,zeroValue0,underlying3,runUnderlying3,sizeOf3,isAgg3,zeroValue3,underlying4,runUnderlying4,sizeOf4,isAgg4,zeroValue4,underlying9,runUnderlying9,sizeOf9,isAgg9,zeroValue9,underlying20,runUnderlying20,sizeOf20,isAgg20,zeroValue20,underlying21,runUnderlying21,sizeOf21,isAgg21,zeroValue21,(by kernel_rfl),(by kernel_rfl)⟩
instance:Go.ConcR.Payload:=⟨53⟩
end
section
open Go.Conc Go.ConcN Go.RowKit Go.Conc.Lib Go.ConcR.Gen
open Go.ConcR (KK wgBlock WgAt stA smA rd wr mk Payload DC0)
variable{B E n:Nat}{v w:AK}
structure Rec where
 o:Nat
 m:Nat
 a:Nat
 b:Nat
 c:Nat
structure Rec.Ok(r:Rec):Prop where
 o:r.o<256
 m:r.m<256
 a:U64 r.a
 b:U64 r.b
 c:U64 r.c
def Rec.res(r:Rec):Nat×Nat×Bool:=doF r.o r.m r.a r.b r.c
def xz(x:Nat×Nat×Bool):List Aq:=[iU x.1,qB x.2.1,.bool x.2.2]
def flat(rs:List Rec):List Aq:=rs.flatMap λr=>xz r.res
def fF(rs:List Rec):Nat:=rs.foldl (λf r=>f|||r.res.2.1) 0
def bG(E:Nat)(w:AK)(f:Nat):Prop:=∃e,w.heap[E]?=some (.cells #[iH f] e (0,0))/\f<4294967296
def FlB(E B:Nat)(w v:AK):Prop:=∀f:Nat,bG E w f->∃f':Nat,bG E v f'/\f|||f'=f'/\f'|||(f|||B)=f|||B
def FlB.refl(E B:Nat)(w:AK):FlB E B w w:=λf h=>⟨f,h,acn f,by rw[<-abb,acn]⟩
def FlB.trans{a b c:AK}(h:FlB E B a b)(k:FlB E B b c):FlB E B a c:=by
 intro f g;obtain⟨f',i,j,e⟩:=h f g;obtain⟨d,l,m,o⟩:=k f' i;refine⟨d,l,by rw[<-m,<-abb,j],?_⟩
 calc d|||(f|||B)=d|||(f'|||(f|||B)):=by rw[e]
  _=(d|||(f'|||B))|||f:=by ac_rfl
  _=f'|||(f|||B):=by rw[o];ac_rfl
  _=f|||B:=e
def FlB.same(h:v.heap[E]?=w.heap[E]?):FlB E B w v:=λf ⟨e,hf,hl⟩=>⟨f,⟨e,h.trans hf,hl⟩,acn f,by rw[<-abb,acn]⟩
def Ho(C E:Nat)(a:Nat->List Rec)(i:Nat)(M:Nat->Prop)(w:AK):Prop:=
 ∃s,Has C i s w/\w.ownsRow C 56 3 s (a i) (flat (a i))/\(∀g,s.ownBlock=some g->M g)/\∃f:Nat,bG E w f/\fF (a i)|||f=f
def dG{base:Nat}{e:E1}{size:Nat}{s:Aq}{b:List Aq}(h:w.ownsRow base e size s n b)(c:∀g,s.ownBlock=some g->v.heap[g]?=w.heap[g]?):v.ownsRow base e size s n b:=by
 refine⟨h.1,?_⟩;rcases h.2 with h|⟨g,cap,a,rfl,d,f,i⟩
 .exact .inl h
 exact .inr ⟨g,cap,a,rfl,d,(c g rfl).trans f,i⟩
def AS(Wg C E n b B:Nat)(a:Nat->List Rec):bW:={ty:=102,Wg,C,E,n,b,Fl:=FlB E B,Fok:=λw=>∃f,bG E w f,Out:=Ho C E a}
def Dg{Wg C b:Nat}{d:Nat->List Rec}(e:C≠Wg)(j:E≠Wg)(l:E≠C)(a:n<2147483648):(AS Wg C E n b B d).Laws:=by
 refine⟨FlB.refl E B,λw v ⟨f,h⟩ k=>let⟨f',h',_⟩:=k f h;⟨f',h'⟩,λ_ _ _ h k=>h.trans k,λ_ _ h=>.same h,λi M w v h m o p=>?_,e,j,l,a⟩;obtain⟨s,q,r,c,f,t,u⟩:=h;obtain⟨f',x,y,_⟩:=p f t;exact⟨s,o.trans q,dG r λg z=>m g (c g z),c,f',x,by rw[<-y,<-abb,u]⟩
structure Lay where
 i:Nat
 lB:Nat
 eB:Nat
 oB:Nat
 iB:Nat
 base:Option Es
 cap:Nat
 capn:Nat
 rs:List Rec
structure Lay.Ok(y:Lay)(K:bW)(Fz:Nat->Prop):Prop where
 i:y.i<K.n
 lB:Fz y.lB
 eB:Fz y.eB
 oB:Fz y.oB
 iB:Fz y.iB
 base:∀a,y.base=some a->Fz a.block/\a.spot=none
 len:(y.rs:Nat)<=1048576
 recs:∀r,r∈y.rs->r.Ok
 tab:Fz 0
def recC(r:Rec):List Aq:=[qB r.o,qB r.m,iU r.a,iU r.b,iU r.c]
structure Kn(K:bW)(y:Lay)(w:AK):Prop where
 hl:w (aD y.lB 0)=some (.slice y.base y.rs y.cap)
 he:w (aD y.eB 0)=pT K.E 0
 ho:w (aD y.oB 0)=qL K.C 0 K.n y.capn
 hi:w (aD y.iB 0)=iI y.i
 recs:∀k r,y.rs[k]?=some r->∃a,y.base=some a/\∀c u,(recC r)[c]?=some u->w (aD a.block (a.off+k*5+c))=some u
 live:WgLive K.ty K.Wg w
 pay:PayAt K.C K.n w
 tab:ga w
section
variable{K:bW}{y:Lay}{Fz M:Nat->Prop}{w v:AK}
def Kn.rely(b:y.Ok K Fz)(h:Kn K y w)(r:Rel (RK K y.i Fz) M w v):Kn K y v:=by
 have e:∀x,Fz x->v.heap[x]?=w.heap[x]?:=r.more.fz;refine⟨(ZQ (e _ b.lB) 0).trans h.hl,(ZQ (e _ b.eB) 0).trans h.he,(ZQ (e _ b.oB) 0).trans h.ho,(ZQ (e _ b.iB) 0).trans h.hi,λk x f=>?_,r.more.live h.live,r.more.pay h.pay,?_⟩
 .obtain⟨a,d,g⟩:=h.recs k x f;exact⟨a,d,λc u j=>(ZQ (e _ (b.base a d).1) _).trans (g c u j)⟩
 obtain⟨fz,h⟩:=h.tab;exact⟨fz,(e 0 b.tab).trans h⟩
end
end
section
open Go.Conc Go.ConcN Go.RowKit Go.Conc.Lib Go.ConcR.Gen
open Go.ConcR (KK wgBlock WgAt stA smA rd wr mk Payload DC0 ofEvent_cell)
variable{sz:Nat}
structure Gk(K:bW)(Fz M:Nat->Prop)(w:AK):Prop where
 mC:¬M K.C
 mE:¬M K.E
 mW:¬M K.Wg
 lt:∀x,M x->x<(w:Nat)
 c:K.C<w
 e:K.E<w
 wg:K.Wg<w
 fz:∀x,Fz x->¬M x/\x<(w:Nat)
 fc:∀x,Fz x->x≠K.C/\x≠K.E
section
variable{K:bW}{i:Nat}{Fz M:Nat->Prop}{w v:AK}{es:Array Nc}
def Gk.grow(h:Gk K Fz M w)(b:(w:Nat)<=v):Gk K Fz M v:=by
 have:=h.c;have:=h.e;have:=h.wg;exact⟨h.mC,h.mE,h.mW,λx a=>by have:=h.lt x a;omega,oM,oM,oM,λx a=>by have:=h.fz x a;exact⟨this.1,oM⟩,h.fc⟩
def Gk.rely{R:AK->AK->Prop}(h:Gk K Fz M w)(r:Rel R M w v):Gk K Fz M v:=h.grow r.size
def Gk.new(h:Gk K Fz M w)(d:(w:Nat)<=v):Gk K Fz (bP M w v) v:=by
 have:=h.c;have:=h.e;have:=h.wg;refine⟨λa=>a.elim h.mC λa=>oM,λa=>a.elim h.mE λa=>oM,λa=>a.elim h.mW λa=>oM,λx b=>b.elim (λb=>by have:=h.lt x b;omega) λb=>b.2,oM,oM,oM,λx b=>?_,h.fc⟩;have:=h.fz x b;exact⟨λa=>a.elim this.1 λa=>oM,oM⟩
def l7(a:Es)(h:Fz a.block)(c:a.block<sz)(s:Bool):EvK K i Fz M sz ⟨.cell a,false,s⟩:=by
 refine⟨λx b=>?_,sM,sM,sM,c⟩;simp only[ack,MemAct.touch?,Zt]at b;subst b;exact .inr (.inr (.inl ⟨⟨_,h,j4 a⟩,rfl⟩))
def jC(a:Es)(h:M a.block)(c:a.block<sz)(wr s:Bool):EvK K i Fz M sz ⟨.cell a,wr,s⟩:=by
 refine⟨λx b=>?_,sM,sM,sM,c⟩;simp only[ack,MemAct.touch?,Zt]at b;subst b;exact .inl ⟨_,h,j4 a⟩
def Ev(b:K.C<sz)(wr s:Bool):EvK K i Fz M sz ⟨.cell (aD K.C i),wr,s⟩:=by
 refine⟨λx a=>?_,sM,sM,sM,b⟩;simp only[ack,MemAct.touch?,Zt]at a;subst a;exact .inr (.inl rfl)
def Ki(b:K.E<sz)(wr:Bool):EvK K i Fz M sz ⟨.cell (aD K.E 0),wr,true⟩:=by
 refine⟨λx a=>?_,sM,sM,sM,b⟩;simp only[ack,MemAct.touch?,Zt]at a;subst a;exact .inr (.inr (.inr (.inl ⟨j4 _,rfl⟩)))
def Kh(m:Mark)(h:Neutral m)(b:(MemAct.mark m).touch?=none)(c:m≠.release (stA K.Wg))(d:m≠.disable)(e:m≠.enable)(f:(MemAct.mark m).low sz):EvK K i Fz M sz ⟨.mark m,false,true⟩:=by
 refine⟨λx a=>?_,by simpa using d,by simpa using e,by simpa using c,f⟩;have:(MemAct.ofEvent ⟨.mark m,false,true⟩).touch?=none:=b;rw[this]at a;cases a
def DK.idle(hK:K.Laws)(v:AK)(a:∀e∈es,EvK K i Fz M v e):DK K i Fz M v v es:=
 ⟨rfl,rfl,rfl,Zo _,λ_ _ _ _ _=>rfl,id,λ_ _=>rfl,hK.flr v,by rw[al rfl];exact a⟩
def aeY:=@DK.idle
def DK.grown(hK:K.Laws)(b:Gk K Fz M v)(f:w.tape=v.tape)(g:w.os=v.os)(h:w.output=v.output)(j:(v:Nat)<=w)(a:∀x,x<(v:Nat)->w.heap[x]?=v.heap[x]?)(d:∀e∈es,EvK K i Fz (bP M v w) w e):DK K i Fz M v w es:=
 ⟨f,g,h,j,λx k _ _ _=>a x k,λl=>cG l (a _ b.c),λm _=>ZQ (a _ b.c) m,hK.flE _ _ (a _ b.e),d⟩
def DK.own(hK:K.Laws)(f:Gk K Fz M v){b:Nat}(c:M b)(a:Go.Conc.Aside b v w)(d:∀e∈es,EvK K i Fz M v e):DK K i Fz M v w es:=by
 have g:K.C≠b:=λe=>f.mC (e▸c);have h:K.E≠b:=λe=>f.mE (e▸c);exact⟨a.tape,a.os,a.output,aaE a.size.symm,λx _ j _ _=>a.block x λe=>j (e▸c),λk=>cG k (a.block _ g),λl _=>ZQ (a.block _ g) l,hK.flE _ _ (a.block _ h),by rw[al a.size,a.size];exact d⟩
end
end
section
open Go.Conc Go.ConcN Go.RowKit Go.Conc.Lib Go.ConcR.Gen
open Go.ConcR (KK wgBlock WgAt stA smA rd wr mk Payload DC0 ofEvent_cell)
variable{Lo b k:Nat}{v:AK}
noncomputable def bK:Code:=f53.body.getD .skip
def bD:Code:=match bK with|.seq _ (.seq _ (.block _ (.loop c)))=>c|_=>.skip
def b53:K0:=baseD 53
def fX:b53.kind≠.early:=dC
section
variable{K:bW}{y:Lay}{Fz M:Nat->Prop}{w:AK}
structure Hd(K:bW)(y:Lay)(Fz:Nat->Prop)(k Lo:Nat)(M:Nat->Prop)(w:AK):Prop where
 kn:Kn K y w
 gk:Gk K Fz M w
 s:∃s,Has K.C y.i s w/\w.ownsRow K.C 56 3 s k (flat (y.rs.take k))/\∀g,s.ownBlock=some g->M g/\g<Lo
 f:∃f:Nat,bG K.E w f/\fF (y.rs.take k)|||f=f
def Hd.rely(hK:K.Laws)(a:∃B,K.Fl=FlB K.E B)(j:y.Ok K Fz)(h:Hd K y Fz k Lo M w)(r:Rel (RK K y.i Fz) M w v):Hd K y Fz k Lo M v:=by
 refine⟨h.kn.rely j r,h.gk.rely r,?_,?_⟩
 .obtain⟨s,c,d,e⟩:=h.s;exact⟨s,r.more.cell.trans c,dG d λg l=>r.mine g (e g l).1,e⟩
 obtain⟨f,c,d⟩:=h.f;obtain⟨B,m⟩:=a;have:=r.more.fl;rw[m]at this;obtain⟨f',n,o,_⟩:=this f c;exact⟨f',n,by rw[<-o,<-abb,d]⟩
def mK{w:AK}{base:Nat}{e:E1}{size:Nat}{s:Aq}{n:Nat}{c:List Aq}(h:w.ownsRow base e size s n c){g:Nat}(a:s.ownBlock=g):g<w:=by
 rcases h.2 with⟨rfl,_⟩|⟨g',cap,d,rfl,_,f,_⟩
 .cases a
 simp only[Value.ownBlock,Zt]at a;subst a;exact(Zq.1 f).1
def Hd.grown(l:y.Ok K Fz)(h:Hd K y Fz k Lo M w)(q:(w:Nat)<=v)(m:∀x,x<(w:Nat)->v.heap[x]?=w.heap[x]?):Hd K y Fz k w (bP M w v) v:=by
 have e:∀x,Fz x->v.heap[x]?=w.heap[x]?:=λx p=>m x (h.gk.fz x p).2;have d:=h.kn;refine⟨⟨(ZQ (e _ l.lB) 0).trans d.hl,(ZQ (e _ l.eB) 0).trans d.he,(ZQ (e _ l.oB) 0).trans d.ho,(ZQ (e _ l.iB) 0).trans d.hi,λk x p=>?_,dj d.live (m _ h.gk.wg),cG d.pay (m _ h.gk.c),?_⟩,h.gk.new q,?_,?_⟩
 .obtain⟨a,n,j⟩:=d.recs k x p;exact⟨a,n,λc u r=>(ZQ (e _ (l.base a n).1) _).trans (j c u r)⟩
 .obtain⟨fz,h⟩:=d.tab;exact⟨fz,(e 0 l.tab).trans h⟩
 .obtain⟨s,n,j,t⟩:=h.s;exact⟨s,(ZQ (m _ h.gk.c) y.i).trans n,dG j λg o=>m g (mK j o),λg o=>⟨.inl (t g o).1,mK j o⟩⟩
 obtain⟨f,⟨z,n,A⟩,j⟩:=h.f;exact⟨f,⟨z,(m _ h.gk.e).trans n,A⟩,j⟩
def Hd.own(l:y.Ok K Fz)(h:Hd K y Fz k Lo M w)(p:M b)(z:Lo<=b)(m:Go.Conc.Aside b w v):Hd K y Fz k Lo M v:=by
 have d:=h.kn;have e:∀x,Fz x->v.heap[x]?=w.heap[x]?:=λx q=>m.block x λj=>(h.gk.fz x q).1 (j▸p);have r:v.heap[K.C]?=w.heap[K.C]?:=m.block _ λj=>h.gk.mC (j▸p);refine⟨⟨(ZQ (e _ l.lB) 0).trans d.hl,(ZQ (e _ l.eB) 0).trans d.he,(ZQ (e _ l.oB) 0).trans d.ho,(ZQ (e _ l.iB) 0).trans d.hi,λk x q=>?_,dj d.live (m.block _ λj=>h.gk.mW (j▸p)),cG d.pay r,?_⟩,h.gk.grow (aaE m.size.symm),?_,?_⟩
 .obtain⟨a,n,o⟩:=d.recs k x q;exact⟨a,n,λc u A=>(ZQ (e _ (l.base a n).1) _).trans (o c u A)⟩
 .obtain⟨fz,h⟩:=d.tab;exact⟨fz,(e 0 l.tab).trans h⟩
 .obtain⟨s,n,o,t⟩:=h.s;exact⟨s,(ZQ r y.i).trans n,dG o λg B=>m.block g (by have:=(t g B).2;omega),t⟩
 obtain⟨f,⟨D,n,F⟩,o⟩:=h.f;exact⟨f,⟨D,(m.block K.E λj=>h.gk.mE (j▸p)).trans n,F⟩,o⟩
@[go_sem]theorem Et(P:E2)(w:AK)(es:Array Nc)(a:Es)(m:Mode)(b:Bool):(store a (.bool b) m).events P w es=storedEv P w es a (.bool b) m:=events_store P w es a _ m rfl
def gh{cs:Array Aq}{a:E1}(h:v.heap[b]?=some (.cells cs a (0,0)))(n:Nat)(x:Aq):(v.setCell (aD b n) x).heap[b]?=some (.cells (cs.setIfInBounds n x) a (0,0)):=by
 rw[setCell_eq_setRow v b n cs a (0,0) x h,setRow_heap v b _ _ a _ h]
def asd(n:Nat)(x:Aq):Go.Conc.Aside b v (v.setCell (aD b n) x):=abL v (aD b n) x
def dm(v:AK)(o:Obj):∀x,x<(v:Nat)->(v.alloc o).heap[x]?=v.heap[x]?:=λx a=>aap _ _ _ a
end
end
section
open Go.Conc Go.ConcN Go.RowKit Go.Conc.Lib Go.ConcR.Gen
open Go.ConcR (KK wgBlock WgAt stA smA rd wr mk Payload DC0 ofEvent_cell)
section
variable{K:bW}{y:Lay}{Fz M:Nat->Prop}{w v:AK}{k Lo:Nat}{s:Aq}
structure Jd(K:bW)(y:Lay)(Fz:Nat->Prop)(k:Nat)(s:Aq)(M:Nat->Prop)(w:AK):Prop where
 kn:Kn K y w
 gk:Gk K Fz M w
 has:Has K.C y.i s w
 f:∃f:Nat,bG K.E w f/\fF (y.rs.take k)|||f=f
def Jd.rely(a:∃B,K.Fl=FlB K.E B)(b:y.Ok K Fz)(h:Jd K y Fz k s M w)(r:Rel (RK K y.i Fz) M w v):Jd K y Fz k s M v:=by
 refine⟨h.kn.rely b r,h.gk.rely r,r.more.cell.trans h.has,?_⟩;obtain⟨f,c,d⟩:=h.f;obtain⟨B,e⟩:=a;have:=r.more.fl;rw[e]at this;obtain⟨f',g,j,_⟩:=this f c;exact⟨f',g,by rw[<-j,<-abb,d]⟩
def Dd(M:Nat->Prop)(v v':AK)(es:Array Nc):Prop:=Does M v v'/\∀x,x∈es->ov (bP M v v') (λb=>b=0) x
def Jd.does(hK:K.Laws)(g:y.Ok K Fz){es:Array Nc}(h:Jd K y Fz k s M w)(b:Dd M w v es):DK K y.i Fz M w v es/\Jd K y Fz k s (bP M w v) v:=by
 obtain⟨b,r⟩:=b;have d:=h.gk;have j:=h.kn;have e:∀x,Fz x->v.heap[x]?=w.heap[x]?:=λx l=>b.rest x (d.fz x l).1 (d.fz x l).2;have q:=b.rest _ d.mC d.c;have A:=b.rest _ d.mE d.e;refine⟨⟨b.tape,b.os,b.out,b.size,λx l C _ _=>b.rest x C l,λD=>cG D q,λE _=>ZQ q E,hK.flE _ _ A,λx l=>?_⟩,⟨⟨(ZQ (e _ g.lB) 0).trans j.hl,(ZQ (e _ g.eB) 0).trans j.he,(ZQ (e _ g.oB) 0).trans j.ho,(ZQ (e _ g.iB) 0).trans j.hi,λk x l=>?_,dj j.live (b.rest _ d.mW d.wg),cG j.pay q,?_⟩,d.new b.size,(ZQ q y.i).trans h.has,?_⟩⟩
 .have p:=d.new b.size;rcases r x l with⟨f,B⟩|⟨a,n,o,m⟩
  .obtain⟨z,wr,F⟩:=x;simp only at B;subst B;exact⟨λt G=>(by cases G),sM,sM,sM,trivial⟩
  obtain⟨z,wr,F⟩:=x;simp only at n o m;subst n o;rcases m with m|⟨H,m⟩
  .exact jC a m (p.lt _ m) _ _
  subst H;exact l7 a (by rw[m];exact g.tab) (by rw[m];exact(p.fz 0 g.tab).2) _
 .obtain⟨a,n,o⟩:=j.recs k x l;exact⟨a,n,λc u I=>(ZQ (e _ (g.base a n).1) _).trans (o c u I)⟩
 .obtain⟨fz,h⟩:=j.tab;exact⟨fz,(e 0 g.tab).trans h⟩
 obtain⟨f,⟨J,n,L⟩,o⟩:=h.f;exact⟨f,⟨J,A.trans n,L⟩,o⟩
def WL(hK:K.Laws)(A:∃B,K.Fl=FlB K.E B)(C:y.Ok K Fz)(h:Hd K y Fz k Lo M w){r:Rec}(u:r.Ok)(fr:K0)(cs:List K0):
 an prog false (RK K y.i Fz) (DK K y.i Fz) (λg M' v=>g=G (fr.finish (nE r.res.1 r.res.2.1 r.res.2.2)) cs/\Hd K y Fz k Lo M' v/\∀b,M b->M' b/\v.heap[b]?=w.heap[b]?)
  (G (Frame.enter prog 29 #[REC r.o r.m r.a r.b r.c] .normal) (fr::cs)) M w:=by
 have L:=aeV K hK y.i Fz;obtain⟨s,F,H,l⟩:=h.s;have base:=Nj (main:=false) (R:=RK K y.i Fz) (D:=Dd) u.o u.m u.a u.b u.c (λw v r ⟨fz,ht⟩=>⟨fz,(r.fz 0 C.tab).trans ht⟩) h.kn.tab (λM v v' es q I=>⟨q,I⟩) fr cs;have e:=an.frame (K:=M) L (λM₁ v v' es d b n N p=>d.1.rest b N p) (λM₁ v v' es d=>⟨⟨d.1.tape,d.1.os,d.1.out,d.1.size,d.1.drawn,λb n p=>d.1.rest b (λx=>n (.inl x)) p⟩,λx O=>(d.2 x O).imp id λ⟨a,q,I,t⟩=>⟨a,q,I,t.imp (λt=>t.imp .inl id) id⟩⟩)
  (λM₁ v v' es d=>⟨d.1.size,d.1.tape,d.1.os,d.1.out⟩) base (λb n=>⟨id,h.gk.lt b n⟩)
 have P:(λb=>False\/M b)=M:=funext λb=>propext ⟨λh=>h.elim False.elim id,.inr⟩;rw[P]at e;refine(e.keepD (J:=Jd K y Fz k s) (D':=DK K y.i Fz) (λM w v j r=>j.rely A C r) (λM v v' es j d=>j.does hK C d) ⟨h.kn,h.gk,F,h.f⟩).mono (λ_ _ h=>h) (λ_ _ _ _ h=>h) ?_;rintro g M' v⟨⟨M₁,q,rfl,t⟩,j⟩;exact⟨rfl,⟨j.kn,j.gk,⟨s,j.has,dG H λg z=>t g (l g z).1,λg z=>⟨(q g).2 (.inr (l g z).1),(l g z).2⟩⟩,j.f⟩,λb n=>⟨(q b).2 (.inr n),t b n⟩⟩
end
end
section
open Go.Conc Go.ConcN Go.RowKit Go.Conc.Lib Go.ConcR.Gen
open Go.ConcR (KK wgBlock WgAt stA smA rd wr mk Payload DC0 ofEvent_cell)
variable{B f g:Nat}
def ofInt_u32(x:Nat)(a:x<4294967296):(BitVec.ofInt 32 (x:Int)).toNat=x:=by
 rw[acR,ada];exact aac a
def u32_or_nat(x y:Nat)(a:x<4294967296)(b:y<4294967296):Na .or .u32 (x:Int) (y:Int)=((x|||y:Nat):Int):=by
 have h:x|||y<2^32:=ab2 a b
 show IntKind.u32.wrap ((BitVec.ofInt 32 (x:Int)|||BitVec.ofInt 32 (y:Int)).toNat:Int)=_;rw[BitVec.toNat_or,ofInt_u32 x a,ofInt_u32 y b,IntKind.wrap_u32];omega
section
variable{P:E2}{w:AK}{ad:Es}{v d:Int}
def oK(a:w ad=iH v)(b:w.frozen? ad=false):
 (Extern.Atomic.update (Op.intBits .or) .u32 false #[.pointer ad,iH d]).run P w=.ok (iH v) (w.setCell ad (iH (Na .or .u32 v d))):=by
 change Sem.run P (do
  let a'<-asAddr (.pointer ad)
  let old<-Extern.Atomic.read (.int .u32) a'
  let new<-Op.intBits .or .u32 (<-asInt old) (<-asInt (iH d))
  store a' new .atomic
  pure (if false then new else old)) w=_
 have c:Op.intBits .or .u32 v d=pure (iH (Na .or .u32 v d)):=rfl;simp[Extern.Atomic.read,asAddr,asInt,asIntOf,a,b,c,run_store P w ad (iH (Na .or .u32 v d)) .atomic rfl,Result.andThen]
def rD(a:w ad=iH v)(b:w.frozen? ad=false)(es:Array Nc):
 (Extern.Atomic.update (Op.intBits .or) .u32 false #[.pointer ad,iH d]).events P w es=(es.push ⟨.cell ad,false,true⟩).push ⟨.cell ad,true,true⟩:=by
 change Sem.events P (do
  let a'<-asAddr (.pointer ad)
  let old<-Extern.Atomic.read (.int .u32) a'
  let new<-Op.intBits .or .u32 (<-asInt old) (<-asInt (iH d))
  store a' new .atomic
  pure (if false then new else old)) w es=_
 have c:Op.intBits .or .u32 v d=pure (iH (Na .or .u32 v d)):=rfl;simp[Extern.Atomic.read,asAddr,asInt,asIntOf,a,b,c,events_load,events_store P w _ ad (iH (Na .or .u32 v d)) .atomic rfl,Result.evThen]
end
section
variable{K:bW}{y:Lay}{Fz M:Nat->Prop}{w v:AK}{k Lo:Nat}
def Kd(hK:K.Laws)(r:K.Fl=FlB K.E B){es:Array Nc}(A:Gk K Fz M v)(h:bG K.E v f)(l:g<4294967296)(d:g|||B=B)(j:∀e∈es,EvK K y.i Fz M v e):
 DK K y.i Fz M v (v.setCell (aD K.E 0) (iH (Na .or .u32 f g))) es/\bG K.E (v.setCell (aD K.E 0) (iH (Na .or .u32 f g))) (f|||g):=by
 obtain⟨e,m,o⟩:=h;have a:=asd (v:=v) (b:=K.E) 0 (iH (Na .or .u32 f g));have s:=gh m 0 (iH (Na .or .u32 f g));rw[u32_or_nat f g o l]at*;have p:bG K.E (v.setCell (aD K.E 0) (iH ((f|||g:Nat):Int))) (f|||g):=⟨e,by simpa using s,ab2 (n:=32) o l⟩;have q:=a.block K.C (abj hK.ec);refine⟨⟨a.tape,a.os,a.output,aaE a.size.symm,λx _ _ _ t=>a.block x t,λu=>cG u q,λz _=>ZQ q z,?_,by rw[al a.size,a.size];exact j⟩,p⟩;rw[r];intro f' ⟨e',c,h4⟩;rw[m]at c;simp only[Zt,ac5,aeZ,abd,adR,and_true,true_and]at c;obtain⟨c,_⟩:=c;have:f'=f:=oM;subst this;refine⟨f'|||g,p,by rw[<-abb,acn],?_⟩
 calc (f'|||g)|||(f'|||B)=(f'|||f')|||(g|||B):=by ac_rfl
  _=f'|||B:=by rw[acn,d]
def o9(a:K.Fl=FlB K.E B){z:Nat}(h:∃f:Nat,bG K.E w f/\z|||f=f)(r:Rel (RK K y.i Fz) M w v):∃f:Nat,bG K.E v f/\z|||f=f:=by
 obtain⟨f,b,c⟩:=h;have:=r.more.fl;rw[a]at this;obtain⟨f',d,e,_⟩:=this f b;exact⟨f',d,by rw[<-e,<-abb,c]⟩
def Hd.flag(hK:K.Laws)(d:y.Ok K Fz)(h:Hd K y Fz k Lo M w)(j:Go.Conc.Aside K.E w v)(o:fF (y.rs.take k)|||f=f)(p:bG K.E v (f|||g)):
 Hd K y Fz k Lo M v/\∃f:Nat,bG K.E v f/\(fF (y.rs.take k)|||g)|||f=f:=by
 have b:=h.kn;have e:∀x,Fz x->v.heap[x]?=w.heap[x]?:=λx m=>j.block x (h.gk.fc x m).2;have q:v.heap[K.C]?=w.heap[K.C]?:=j.block _ (abj hK.ec);refine⟨⟨⟨(ZQ (e _ d.lB) 0).trans b.hl,(ZQ (e _ d.eB) 0).trans b.he,(ZQ (e _ d.oB) 0).trans b.ho,(ZQ (e _ d.iB) 0).trans b.hi,λk x m=>?_,dj b.live (j.block _ (abj hK.ew)),cG b.pay q,?_⟩,h.gk.grow (aaE j.size.symm),?_,⟨_,p,by rw[<-abb,o]⟩⟩,_,p,?_⟩
 .obtain⟨a,l,n⟩:=b.recs k x m;exact⟨a,l,λc u t=>(ZQ (e _ (d.base a l).1) _).trans (n c u t)⟩
 .obtain⟨fz,h⟩:=b.tab;exact⟨fz,(e 0 d.tab).trans h⟩
 .obtain⟨s,l,n,r⟩:=h.s;exact⟨s,(ZQ q y.i).trans l,dG n λg z=>j.block g λe=>h.gk.mE (e▸(r g z).1),r⟩
 calc (fF (y.rs.take k)|||g)|||(f|||g)=(fF (y.rs.take k)|||f)|||(g|||g):=by ac_rfl
  _=f|||g:=by rw[o,acn]
def Wm(hK:K.Laws)(n:K.Fl=FlB K.E B)(q:y.Ok K Fz)(h:Hd K y Fz k Lo M w)(J:g<4294967296)(t:g|||B=B)(fr:K0)(cs:List K0):
 an prog false (RK K y.i Fz) (DK K y.i Fz) (λg' M' v=>∃x,g'=G (fr.finish x) cs/\M'=M/\Hd K y Fz k Lo M v/\(∃f:Nat,bG K.E v f/\(fF (y.rs.take k)|||g)|||f=f)/\∀b,M b->v.heap[b]?=w.heap[b]?)
  (G (Frame.enter prog 55 #[pT K.E 0,iH g] .normal) (fr::cs)) M w:=by
 have o:=aeV K hK y.i Fz;have l:∀M v,DK K y.i Fz M v v #[]:=λM v=>aeY hK v sM;rw[aeo _ func55 rfl]
 walk_nrmf f55
 refine .ctl o rfl (λv _=>l _ v) (λv=>ZH) ?_;refine ck o (λv _=>l _ v) rfl (base_kind _) ?_;simp only[aah,Z6,aaA,Nat.reduceAdd,Z8,List.range,List.range.loop];refine aB rfl rfl λv c r d=>?_;replace h:=h.rely hK ⟨B,n⟩ q c;have a:∀b,M b->v.heap[b]?=w.heap[b]?:=c.mine;clear c;go_simp;refine d _ _ ⟨by rw[aaw (by simp[go_sem, *])];exact l _ _,?_⟩;clear d r;rw[al rfl];refine bL o (λv _=>l _ v) ?_;refine .ctl o rfl (λv _=>l _ v) (λv=>ZH) ?_;refine ck o (λv _=>l _ v) rfl (base_kind _) ?_;simp only[aah,Z6,aaA,Nat.reduceAdd,Z8,List.range,List.range.loop]
 iterate 4
  refine aB rfl rfl λv c r d=>?_;replace h:=h.rely hK ⟨B,n⟩ q c;replace a:∀b,M b->v.heap[b]?=w.heap[b]?:=λb j=>(c.mine b j).trans (a b j);clear c;go_simp;refine d _ _ ⟨by rw[aaw (by simp[go_sem, *])];exact l _ _,?_⟩;clear d r;rw[al rfl]
 refine Cm rfl rfl rfl func85 (by kernel_rfl) (by kernel_rfl) (by kernel_rfl) (e:=Extern.Atomic.update (Op.intBits .or) .u32 false) (by kernel_rfl) λv c=>?_;replace h:=h.rely hK ⟨B,n⟩ q c;replace a:∀b,M b->v.heap[b]?=w.heap[b]?:=λb j=>(c.mine b j).trans (a b j);clear c;obtain⟨f,p,u⟩:=h.f;obtain⟨D,F⟩:=Kd (y:=y) (es:=#[⟨.cell (aD K.E 0),false,true⟩,⟨.cell (aD K.E 0),true,true⟩]) hK n h.gk p J t (by intro e H;simp at H;rcases H with rfl|rfl<;>exact Ki h.gk.e _);have z:cF v K.E 0 (iH f):=by obtain⟨e,A,_⟩:=p;simp[World.cell?,A]
 have C:fZ v K.E 0:=by obtain⟨e,A,_⟩:=p;simp[World.frozen?,A]
 walk_nrm
 refine⟨_,_,_,oK z C,by rw[rD z C];rfl,sync_rw _,D,?_⟩;have s:=asd (v:=v) (b:=K.E) 0 (iH (Na .or .u32 f g));rw[al s.size];obtain⟨I,m⟩:=h.flag hK q s u F;replace a:∀b,M b->(v.setCell (aD K.E 0) (iH (Na .or .u32 f g))).heap[b]?=w.heap[b]?:=λb j=>(s.block b λe=>h.gk.mE (e▸j)).trans (a b j);clear s D F z C h;have h:=I;clear I;generalize World.setCell v _ _=L at h m a⊢;refine aB rfl rfl λv c r d=>?_;replace h:=h.rely hK ⟨B,n⟩ q c;replace a:∀b,M b->v.heap[b]?=w.heap[b]?:=λb j=>(c.mine b j).trans (a b j);replace m:=o9 n m c;clear c;go_simp;refine d _ _ ⟨by rw[aaw (by simp[go_sem, *])];exact l _ _,?_⟩;clear d r;rw[al rfl];refine bL o (λv _=>l _ v) ?_;refine .ctl o rfl (λv _=>l _ v) (λv=>abQ) ?_;refine .ctl o rfl (λv _=>l _ v) (λv=>stepG_leave (v:=iH f) rfl rfl func55 (by simp[results,f55,go_sem]) (by simp[results,f55,go_sem])) ?_;exact .stop λv c=>⟨_,rfl,rfl,h.rely hK ⟨B,n⟩ q c,o9 n m c,λb j=>(c.mine b j).trans (a b j)⟩
end
end
section
open Go.RowKit
def Ck(E f g:Nat)(a:f<4294967296)(b:g<4294967296)(w:AK)(c:cF w E 0 (iH f))(d:fZ w E 0):
 Bf prog 55 #[pT E 0,iH g] w λe w'=>e=.returned (iH f)/\w'=w.setCell (aD E 0) (iH ((f|||g:Nat):Int)):=by
 have h:(callFunc 85 #[pT E 0,iH g]).run prog w=.ok (.value (iH f)) (w.setCell (aD E 0) (iH ((f|||g:Nat):Int))):=by
  rw[acu func85 (by kernel_rfl) (by kernel_rfl) (by kernel_rfl) (e:=Extern.Atomic.update (Op.intBits .or) .u32 false) (by kernel_rfl),oK c d,u32_or_nat f g a b];rfl
 clear c d a b;go_enter func55,ntmps55
 go_wp2
 go_ret
 exact⟨rfl,rfl⟩
def Fg(E f:Nat)(w:AK)(a:cF w E 0 (iH f))(b:fZ w E 0):
 Bf prog 58 #[pT E 0,iH 0] w λe w'=>(∃v,e=.returned v)/\w'=w.setCell (aD E 0) (iH 0):=by
 have c:∃v,(callFunc 91 #[pT E 0,iH 0]).run prog w=.ok (.value v) (w.setCell (aD E 0) (iH 0)):=by
  rw[acu func91 (by kernel_rfl) (by kernel_rfl) (by kernel_rfl) (e:=Extern.Atomic.storeT) (by kernel_rfl)];refine⟨Value.tuple #[],?_⟩;change((Sem.run prog (do
   store (<-asAddr (pT E 0)) (iH 0) .atomic
   pure (Value.tuple #[])) w).andThen _)=_
  simp[asAddr,a,b,run_store prog w (aD E 0) (iH 0) .atomic rfl,Result.andThen]
 obtain⟨v,c⟩:=c;clear a b;go_enter func58,ntmps58
 go_wp2
 go_end0
 exact⟨⟨_,rfl⟩,rfl⟩
end
end Go.Proofs.YtldmbneckcjonaaDoor
