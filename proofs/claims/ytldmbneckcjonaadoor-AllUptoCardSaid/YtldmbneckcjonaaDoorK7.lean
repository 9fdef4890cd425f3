/- A part of the proof. -/
import Derived.Conc.AtomicLaws2
import Derived.Conc.Beside
import Derived.Conc.CrowdCom
import Derived.Conc.CompanyMem
import Derived.Test.YtldmbneckcjonaaDoorK5
set_option linter.defProp false
set_option linter.unusedVariables false
set_option linter.unusedSimpArgs false
set_option maxRecDepth 100000
set_option maxHeartbeats 8000000
noncomputable section
namespace Go.Proofs.YtldmbneckcjonaaDoor
open Go renaming World->AK,Value->Aq,Goroutine->Ar,Calls->Bf,undef->C0,Addr->Es,TypeId->E1,Program->E2,stepG->KC,Frame->K0,execOp->Lk,bits->Na,Event->Nc
open Go.RowKit renaming Below->Np,wrap64->Nq
open Go.Proofs.Tryd
section
open Go.RowKit
def GS(E f:Nat)(c:f<256)(w:AK)(b:cF w E 0 (iH f)):
 Bf prog 41 #[pT E 0] w λe w'=>e=.returned (qB f)/\Np w w w':=by
 have d:IntKind.u8.wrap (f:Int)=f:=by rw[acF];omega
 have g:(callFunc 92 #[pT E 0]).run prog w=.ok (.value (iH f)) w:=by
  rw[acu func92 (by kernel_rfl) (by kernel_rfl) (by kernel_rfl) (e:=Extern.Atomic.loadT (.int .u32)) (by kernel_rfl)];change((Sem.run prog (do
   let a<-asAddr (pT E 0)
   Extern.Atomic.read (.int .u32) a) w).andThen _)=_
  simp[Extern.Atomic.read,asAddr,b,Result.andThen]
 go_enter func41,ntmps41
 go_wp2
 go_ret
 exact⟨rfl,Zx _ _⟩
end
section
open Go.RowKit
def CZ(E:Nat)(A':Option Es)(cap:Nat)(rs:List LR)(I:(rs:Nat)<=1048576)(w:AK)(h:bE w A' 5 (rs.map gvC)):
 Bf prog 40 #[pT E 0,.slice A' rs cap] w λe w'=>
  ∃n o s,e=.returned (.func (.func 57) #[] #[pT n 0,pT o 0])/\(w:Nat)<=n/\(w:Nat)<=o/\
   w' (aD n 0)=some s/\w'.ownsRow w 59 5 s rs (rs.flatMap gvC)/\w' (aD o 0)=pT E 0/\Np w w w':=by
 have J:∀(fn:Fn)(first cap:Array Aq)(w:AK),(Instr.makeFunc fn first cap).run prog w=.ok (.func fn first cap) w:=λ_ _ _ _=>rfl;replace h:=Zp h;obtain⟨K,L,p,q,t⟩:=abq xQ;go_enter func40,ntmps40;cases A' with
 |none=>
  have M:rs=[]:=by
   cases rs with
   |nil=>rfl
   |cons r rs=>obtain⟨a,v,_⟩:=h.out 0 (gvC r) rfl;cases v
  subst M;have D:=EO cap
  go_wp2
  go_ret
  refine⟨w+1,w,_,rfl,oM,Zo _,?_,⟨rfl,.inl ⟨rfl,rfl⟩⟩,?_,?_⟩
  .rw[ZK _ _ _ _ sM];rfl
  .rw[aaU _ _ _ sM,ZK _ _ _ _ rfl];rfl
  exact((Zx _ _).alloc (Zo _) _).alloc sM _
 |some a=>
  obtain⟨F,G,i⟩:=a;have k:Np w w (aC w #[pT E 0] 96):=(Zx _ _).alloc (Zo _) _;have b:∀j u,(rs.flatMap gvC)[j]?=some u->(aC w #[pT E 0] 96) ((⟨F,G,i⟩:Es).add j)=some u:=by
   have y:=h.out.below k;cases rs with
   |nil=>intro j u z;simp at z
   |cons r rs=>
    obtain⟨a,v,H,N,_⟩:=h.out 0 (gvC r) rfl;cases v;simp only at H N;subst H;exact sY eG oM y
  have d:∀u∈rs.flatMap gvC,u.oneCell':=by
   intro u l;obtain⟨r,_,l⟩:=acW.1 l;simp[gvC]at l;rcases l with rfl|rfl|rfl|rfl|rfl<;>rfl
  have c:((rs.flatMap gvC):Nat)=rs*5:=by
   clear b d h;induction rs with
   |nil=>rfl
   |cons x rs O=>rw[ab4,abU,O (by simp at I;omega),eG,Z6];omega
  replace b:=Zp b;replace d:=Zp d;replace c:=Zp c
  go_wp2_with(at_builtin;refine aad _ rfl (.const (.slice none 0 0)) (.tmp 6) 71 rfl w 59 K _ 5 32 underlying71 L p q t rfl dC _ 0 [] rfl ⟨rfl,.inl ⟨rfl,rfl⟩⟩ ⟨F,G,i⟩ rs cap (rs.flatMap gvC) rfl c.out ?c0 d.out ?c3 ?c4 ?c5 ?_)
  case c0=>exact b.out
  case c3=>simp only[maxLen];omega
  case c4=>omega
  case c5=>simp
  intro S m g f _;have A:Np w w m:=k.grown f sM λj z=>by simp[Value.ownBlock]at z
  have B:m (aD w 0)=pT E 0:=by
   have P:=f.block w sM (by simp[Value.ownBlock]);rw[ZW (w:=aC w #[pT E 0] 96) P,ZK _ _ _ _ rfl];rfl
  have C:(w:Nat)<m:=by have:=f.size;simp at this;omega
  obtain⟨Q,R,rfl⟩:=ba g;clear f b d c
  go_wp2
  go_ret
  refine⟨m,w,.slice Q rs R,rfl,oM,Zo _,?_,g.alloc _,?_,A.alloc oM _⟩
  .rw[ZK _ _ _ _ rfl];rfl
  rw[aaU _ _ _ C];exact B
end
section
open Go.Conc
variable{M:Nat->Prop}{Stop':Ar->(Nat->Prop)->AK->Prop}{f:AK->Nat}{g:Ar}{w:AK}
structure Rel(R:AK->AK->Prop)(M:Nat->Prop)(w v:AK):Prop where
 tape:v.tape=w.tape
 os:v.os=w.os
 out:v.output=w.output
 size:(w:Nat)<=v
 mine:∀b,M b->v.heap[b]?=w.heap[b]?
 more:R w v
def bP(M:Nat->Prop)(v v':AK):Nat->Prop:=λb=>M b\/((v:Nat)<=b/\b<(v':Nat))
inductive an(P:E2)(main:Bool)(R:AK->AK->Prop)(D:(Nat->Prop)->AK->AK->Array Nc->Prop)(Stop:Ar->(Nat->Prop)->AK->Prop):Ar->(Nat->Prop)->AK->Prop
 |stop {g:Ar} {M:Nat->Prop} {w:AK}:(∀v,Rel R M w v->Stop g M v)->an P main R D Stop g M w
 |step {g:Ar} {M:Nat->Prop} {w:AK}:g.status=.running->(∀v,Rel R M w v->(KC P main g v).goes λ_ v' es=>D M v v' es)->
  (∀v g' v' es,Rel R M w v->KC P main g v=.go g' v' es->an P main R D Stop g' (bP M v v') v')->an P main R D Stop g M w
structure Trans(R:AK->AK->Prop):Prop where
 refl:∀w,R w w
 trans:∀a b c,R a b->R b c->R a c
section
variable{P:E2}{main:Bool}{R:AK->AK->Prop}{D:(Nat->Prop)->AK->AK->Array Nc->Prop}{Stop:Ar->(Nat->Prop)->AK->Prop}
def Rel.refl(a:Trans R)(M:Nat->Prop)(w:AK):Rel R M w w:=⟨rfl,rfl,rfl,Zo _,λ_ _=>rfl,a.refl w⟩
def aeb:=@Rel.refl
def Rel.trans(e:Trans R){a b c:AK}(h:Rel R M a b)(k:Rel R M b c):Rel R M a c:=
 ⟨k.tape.trans h.tape,k.os.trans h.os,k.out.trans h.out,Zz h.size k.size,λx d=>(k.mine x d).trans (h.mine x d),e.trans _ _ _ h.more k.more⟩
def an.rely(b:Trans R){v:AK}(h:an P main R D Stop g M w)(r:Rel R M w v):an P main R D Stop g M v:=by
 cases h with
 |stop h=>exact .stop λx a=>h x (r.trans b a)
 |step c h k=>exact .step c (λx a=>h x (r.trans b a)) λx g' v' es a=>k x g' v' es (r.trans b a)
def an.one(c:g.status=.running)(h:∀v,Rel R M w v->∃g' v' es,KC P main g v=.go g' v' es/\D M v v' es/\an P main R D Stop g' (bP M v v') v'):an P main R D Stop g M w:=by
 refine .step c (λv a=>?_) λv g' v' es a b=>?_
 .obtain⟨g',v',es,b,d,_⟩:=h v a;rw[b];exact d
 obtain⟨g₁,v₁,es₁,he₁,_,e⟩:=h v a;rw[b]at he₁;cases he₁;exact e
def an.bind(c:Trans R)(h:an P main R D Stop g M w)
 (k:∀g M w,Stop g M w->an P main R D Stop' g M w):an P main R D Stop' g M w:=by
 induction h with
 |stop h=>
  rename_i g M w;have d:=k _ _ _ (h w (aeb c M w));by_cases e:∀v,Rel R M w v->Stop' g M v
  .exact .stop e
  cases d with
  |stop a=>exact .stop a
  |step b a k'=>exact .step b a k'
 |step b h _ i=>exact .step b h i
def aen:=@an.bind
def an.mono{d:AK->AK->Prop}{D':(Nat->Prop)->AK->AK->Array Nc->Prop}(h:an P main R D Stop g M w)
 (i:∀a b,d a b->R a b)(j:∀M v v' es,D M v v' es->D' M v v' es)(k:∀g M w,Stop g M w->Stop' g M w):an P main d D' Stop' g M w:=by
 have e:∀{M w v},Rel d M w v->Rel R M w v:=λr=>⟨r.tape,r.os,r.out,r.size,r.mine,i _ _ r.more⟩;induction h with
 |stop h=>exact .stop λv c=>k _ _ _ (h v (e c))
 |step l h _ m=>
  refine .step l (λv c=>?_) λv g' v' es c n=>m v g' v' es (e c) n;have:=h v (e c);revert this;cases KC P main _ v<;>simp only[GStep.goes,aem];exact j _ _ _ _
end
def Dw{X:Type}[Inhabited X](A:Nat->Nat->X)(a:Nat->Option Nat)(e:Nat->Nat)(q:∀i,e (i+1)=e i+(a i).getD 0)
 (r:∀i,a i=none->∀k,A (i+k)=A i/\e (i+k)=e i):∃F:Nat->X,∀i j,(∀l,a i=some l->j<l)->F (e i+j)=A i j:=by
 have t:∀i k,e i<=e (i+k):=λi k=>by
  induction k with
  |zero=>exact Zo _
  |succ k y=>rw[<-abY,q];omega
 let C:Nat->Nat->Prop:=λk i=>e i<=k/\∀l,a i=some l->k<e i+l
 have c:∀k i m,C k i->C k m->i<=m->A i (k-e i)=A m (k-e m):=by
  intro k i m h u b;obtain⟨d,rfl⟩:=Nat.le.dest b;cases d with
  |zero=>rfl
  |succ d=>
   cases n:a i with
   |none=>rw[(r i n (d+1)).1,(r i n (d+1)).2]
   |some l=>
    exfalso;have z:=h.2 l n;have s:=q i;rw[n]at s;simp at s;have B:=t (i+1) d;have v:=u.1;rw[show i+(d+1)=i+1+d by omega]at v;omega
 classical
 refine⟨λk=>if h:∃i,C k i then A h.choose (k-e h.choose)else default,λi j x=>?_⟩;have p:C (e i+j) i:=⟨oM,λl n=>by have:=x l n;omega⟩;have o:∃m,C (e i+j) m:=⟨i,p⟩;simp only[dif_pos o];rcases Nat.le_total o.choose i with b|b
 .rw[c _ _ _ o.choose_spec p b];congr 1;omega
 rw[<-c _ _ _ p o.choose_spec b];congr 1;omega
section path
variable(P:E2)(main:Bool)(R:AK->AK->Prop)(D:(Nat->Prop)->AK->AK->Array Nc->Prop)(Stop:Ar->(Nat->Prop)->AK->Prop)
structure St where
 g:Ar
 M:Nat->Prop
 w:AK
def Bad(s:St)(v:AK):Prop:=Rel R s.M s.w v/\(¬((KC P main s.g v).goes λ_ v' es=>D s.M v v' es)\/∃g' v' es,KC P main s.g v=.go g' v' es/\¬an P main R D Stop g' (bP s.M v v') v')
open Classical in
def pv(s:St):AK:=if h:∃v,Bad P main R D Stop s v then h.choose else s.w
def reg(g:Ar):Bool:=g.dying.isNone&&g.status==.running
def nxt(s:St):St:=match KC P main s.g (pv P main R D Stop s)with
 |.go g' v' _=>if reg g' then⟨g',bP s.M (pv P main R D Stop s) v',v'⟩else s
 |_=>s
def pth(s:St):Nat->St
 |0=>s
 |i+1=>nxt P main R D Stop (pth s i)
def pZ(f:AK->Nat)(s:St):Option Nat:=match KC P main s.g (pv P main R D Stop s)with
 |.go g' v' _=>if reg g' then some (f v'-f (pv P main R D Stop s))else none
 |_=>none
def pat(f:AK->Nat)(s:St)(b:Nat):Nat->Nat
 |0=>b
 |i+1=>pat f s b i+(pZ P main R D Stop f (pth P main R D Stop s i)).getD 0
end path
section
variable{P:E2}{main:Bool}{R:AK->AK->Prop}{D:(Nat->Prop)->AK->AK->Array Nc->Prop}{Stop:Ar->(Nat->Prop)->AK->Prop}
def Jf{s:St}(h:pZ P main R D Stop f s=none):nxt P main R D Stop s=s:=by
 unfold pZ at h;unfold nxt;cases a:KC P main s.g (pv P main R D Stop s)<;>simp_all
def lR{s:St}{b i:Nat}(h:pZ P main R D Stop f (pth P main R D Stop s i)=none):∀k,pth P main R D Stop s (i+k)=pth P main R D Stop s i/\pat P main R D Stop f s b (i+k)=pat P main R D Stop f s b i
 |0=>⟨rfl,rfl⟩
 |k+1=>by
  have a:=lR (b:=b) h k;have e1:pth P main R D Stop s (i+(k+1))=nxt P main R D Stop (pth P main R D Stop s (i+k)):=rfl;have e2:pat P main R D Stop f s b (i+(k+1))=pat P main R D Stop f s b (i+k)+(pZ P main R D Stop f (pth P main R D Stop s (i+k))).getD 0:=rfl;rw[e1,e2,a.1,a.2,h];exact⟨Jf h,rfl⟩
def Win(f:AK->Nat)(x:GStep)(v:AK)(j:Nat):Prop:=match x with
 |.go g' v' _=>reg g'->j<f v'-f v
 |_=>True
def Hu{s:St}{j:Nat}(h:Win f (KC P main s.g (pv P main R D Stop s)) (pv P main R D Stop s) j):∀l,pZ P main R D Stop f s=some l->j<l:=by
 intro l a;unfold pZ at a;unfold Win at h;cases b:KC P main s.g (pv P main R D Stop s)<;>simp_all
def qX(a:(Nat->Nat)->Ar->AK->Ar->(Nat->Prop)->AK->Prop)(Fin:Ar->AK->Prop){gl0:Ar}{wl0:(Nat->Question->Nat)->AK}{N:Ar}{O:Nat->Prop}{Q:AK}
 (lone:∀T,∃(n:Nat)(l:Nat->Ar×AK),l 0=(gl0,wl0 T)/\(∀i,i<n->∃es,KC P true (l i).1 (l i).2=.go (l (i+1)).1 (l (i+1)).2 es)/\Fin (l n).1 (l n).2)
 (start:∀T,(wl0 T).tape=T/\(wl0 T).drawn=0/\((wl0 T):Nat)=((wl0 λ_ _=>0):Nat))
 (B:∀T σ,(∀b,b<((wl0 T):Nat)->σ b=b)->a σ gl0 (wl0 T) N O Q)
 (o:∀σ gl c g M w v,a σ gl c g M w->Rel R M w v->a σ gl c g M v)
 (x:∀σ gl c g M w,a σ gl c g M w->Fin gl c->Stop g M w)
 (step:∀σ gl c g M v gl' d U,a σ gl c g M v->KC P true gl c=.go gl' d U->
  (∀j q,Win World.drawn (KC P main g v) v j->c.tape (c.drawn+j) q=v.tape (v.drawn+j) q)->
  (∀j,Win (·.heap.size) (KC P main g v) v j->σ ((c:Nat)+j)=(v:Nat)+j)->
  g.status=.running/\∃g' v' es,KC P main g v=.go g' v' es/\reg g'=true/\D M v v' es/\a σ gl' d g' (bP M v v') v'/\
   d.tape=c.tape/\d.drawn=c.drawn+(v'.drawn-v.drawn)/\(d:Nat)=(c:Nat)+((v':Nat)-(v:Nat))):
 an P main R D Stop N O Q:=by
 apply abP;intro C
 let p:St:=⟨N,O,Q⟩
 let S:=pth P main R D Stop p
 let V:=λi=>pv P main R D Stop (S i)
 let y:=(wl0 λ_ _=>0).heap.size
 obtain⟨T,hT⟩:=Dw (X:=Question->Nat) (λi j=>(V i).tape ((V i).drawn+j)) (λi=>pZ P main R D Stop World.drawn (S i)) (pat P main R D Stop World.drawn p 0) (λ_=>rfl)
  (λi h k=>⟨by have:=(lR (b:=0) h k).1;simp only[V,S]at*;rw[this],(lR (b:=0) h k).2⟩)
 obtain⟨F,hF⟩:=Dw (X:=Nat) (λi j=>((V i):Nat)+j) (λi=>pZ P main R D Stop (·.heap.size) (S i)) (pat P main R D Stop (·.heap.size) p y) (λ_=>rfl)
  (λi h k=>⟨by have:=(lR (b:=0) h k).1;simp only[V,S]at*;rw[this],(lR (b:=y) h k).2⟩)
 let σ:Nat->Nat:=λb=>if b<y then b else F b
 have hσ:∀i(j:Nat),y<=pat P main R D Stop (·.heap.size) p y i:=λi _=>by
  induction i with
  |zero=>exact Zo _
  |succ i ih=>exact Zz asT (Nat.le_add_right _ _)
 obtain⟨n,l,W,Y,E⟩:=lone T;obtain⟨t1,t2,t3⟩:=start T;have Te:∀i,i<=n->¬an P main R D Stop (S i).g (S i).M (S i).w/\a σ (l i).1 (l i).2 (S i).g (S i).M (S i).w/\(l i).2.tape=T/\(l i).2.drawn=pat P main R D Stop World.drawn p 0 i/\(l i).2.heap.size=pat P main R D Stop (·.heap.size) p y i:=by
  intro i;induction i with
  |zero=>
   intro _;refine⟨C,?_,?_,?_,?_⟩<;>rw[W]
   .exact B T σ λb A=>by
     simp only[σ];rw[ZC (by rw[t3]at A;exact A)]
   .exact t1
   .exact t2
   exact t3
  |succ i ih=>
   intro hi;obtain⟨A,L,G,hd,hz⟩:=ih oM;obtain⟨es,e⟩:=Y i oM;have wT:∀v,v=V i->∀j q,Win World.drawn (KC P main (S i).g v) v j->(l i).2.tape ((l i).2.drawn+j) q=v.tape (v.drawn+j) q:=by
    rintro v rfl j q Z;rw[G,hd,hT i j (Hu Z)]
   have wS:∀v,v=V i->∀j,Win (·.heap.size) (KC P main (S i).g v) v j->σ ((l i).2.heap.size+j)=(v:Nat)+j:=by
    rintro v rfl j Z;rw[hz];simp only[σ];rw[Zr (by have:=hσ i 0;omega)];exact hF i j (Hu Z)
   have hx:∃v,Bad P main R D Stop (S i) v:=by
    apply abP;intro z;apply A;have r:∀v,Rel R (S i).M (S i).w v->((KC P main (S i).g v).goes λ_ v' es=>D (S i).M v v' es)/\∀g' v' es,KC P main (S i).g v=.go g' v' es->an P main R D Stop g' (bP (S i).M v v') v':=by
     intro v s;constructor
     .exact abP λH=>z ⟨v,s,.inl H⟩
     intro g' v' es m;exact abP λH=>z ⟨v,s,.inr ⟨g',v',es,m,H⟩⟩
    have I:V i=(S i).w:=by
     simp only[V];unfold pv;rw[dif_neg z]
    have t:=(step σ (l i).1 (l i).2 (S i).g (S i).M (S i).w _ _ _ L e (wT _ I.symm) (wS _ I.symm)).1;exact .step t (λv s=>(r v s).1) λv g' v' es s m=>(r v s).2 g' v' es m
   have hV:Bad P main R D Stop (S i) (V i):=by
    simp only[V];unfold pv;rw[dif_pos hx];exact hx.choose_spec
   have aa:=o _ _ _ _ _ _ _ L hV.1;obtain⟨t,g',v',es',m,u,hD,ab,e1,e2,e3⟩:=step σ (l i).1 (l i).2 (S i).g (S i).M (V i) _ _ _ aa e (wT _ rfl) (wS _ rfl);have J:S (i+1)=⟨g',bP (S i).M (V i) v',v'⟩:=by
    show nxt P main R D Stop (S i)=_;unfold nxt;simp only[V]at m;rw[m];simp only[u,aba];rfl
   have K:∀f,pZ P main R D Stop f (S i)=some (f v'-f (V i)):=by
    intro f;unfold pZ;simp only[V]at m;rw[m];simp only[u,aba];rfl
   refine⟨?_,?_,e1.trans G,?_,?_⟩
   .rw[J];rcases hV.2 with H|⟨g₁,v₁,es₁,he₁,ac⟩
    .exact absurd (by rw[m];exact hD) H
    rw[m]at he₁;cases he₁;exact ac
   .rw[J];exact ab
   .rw[e2,hd];show _=pat P main R D Stop World.drawn p 0 i+(pZ P main R D Stop World.drawn (S i)).getD 0;rw[K];rfl
   rw[e3,hz];show _=pat P main R D Stop (·.heap.size) p y i+(pZ P main R D Stop (·.heap.size) (S i)).getD 0;rw[K];rfl
 obtain⟨A,L,_⟩:=Te n (Zo n);exact A (.stop λv s=>x _ _ _ _ _ _ (o _ _ _ _ _ _ _ L s) E)
end
end
section
open Go.Conc
section
variable{X:Type}
structure Ord(lt le:X->X->Prop):Prop where
 refl:∀x,le x x
 trans:∀a b c,le a b->le b c->le a c
 sub:∀z y x,lt z y->le y x->lt z x
def LtM(a b:X->X->Prop)(m:Nat)(y x:Nat->X):Prop:=∃i,i<m/\a (y i) (x i)/\∀j,j<m->j≠i->b (y j) (x j)
def LeM(a:X->X->Prop)(m:Nat)(y x:Nat->X):Prop:=∀j,j<m->a (y j) (x j)
variable{lt le:X->X->Prop}
def Bn(d:Ord lt le):∀(m:Nat)(x:Nat->X),(∀i,i<m->Acc lt (x i))->∀b,LeM le m b x->Acc (LtM lt le m) b
 |0,x,_,b,_=>.intro _ λy ⟨i,s,_⟩=>absurd s oM
 |m+1,x,h,b,p=>by
  have t:∀a,Acc lt a->∀r:Nat->X,(∀i,i<m->Acc lt (r i))->∀b,le (b m) a->LeM le m b r->Acc (LtM lt le (m+1)) b:=by
   intro a A;induction A with
   |intro a _ u=>
    intro r o;have e:=Bn d m r o r λj _=>d.refl _;have l:∀r,Acc (LtM lt le m) r->(∀i,i<m->Acc lt (r i))->∀b,le (b m) a->LeM le m b r->Acc (LtM lt le (m+1)) b:=by
     intro r e;induction e with
     |intro r _ v=>
      intro o b z q;refine .intro _ λy ⟨i,s,hlt,hle⟩=>?_;by_cases w:i=m
      .subst w;exact u (y i) (d.sub _ _ _ hlt z) r o y (d.refl _) λj f=>d.trans _ _ _ (hle j oM oM) (q j f)
      have g:i<m:=oM
      let k:Nat->X:=λj=>if j=i then y i else r j
      have n:LtM lt le m k r:=⟨i,g,by simp only[k,aba];exact d.sub _ _ _ hlt (q i g),λj _ f=>by simp only[k,Zr f];exact d.refl _⟩;refine v k n (λj f=>?_) y (d.trans _ _ _ (hle m oM oM) z) λj f=>?_
      .by_cases c:j=i
       .subst c;simp only[k,aba];have:=o j f;cases this with
        |intro _ h=>exact h _ (d.sub _ _ _ hlt (q j f))
       simp only[k,Zr c];exact o j f
      by_cases c:j=i
      .subst c;simp only[k,aba];exact d.refl _
      simp only[k,Zr c];exact d.trans _ _ _ (hle j oM c) (q j f)
    exact l r e o
  exact t (x m) (h m oM) x (λi s=>h i oM) b (p m oM) λj f=>p j oM
end
section
variable{P:E2}{main:Bool}{R:AK->AK->Prop}{D:(Nat->Prop)->AK->AK->Array Nc->Prop}{Stop:Ar->(Nat->Prop)->AK->Prop}
def an.of_goes{e:AK->AK->Prop}{D':AK->AK->Array Nc->Prop}{f:Ar->AK->Prop}(d:∀M a b,Rel R M a b->e a b)(i:∀M v v' es,D' v v' es->D M v v' es):
 ∀{n:Nat}{g:Ar}{M:Nat->Prop}{w:AK},Goes P main e D' f n g w->an P main R D (λg _ w=>f g w) g M w
 |0,g,M,w,h=>.stop λv c=>h v (d _ _ _ c)
 |n+1,g,M,w,h=>by
  rcases h with h|⟨j,h⟩
  .exact .stop λv c=>h v (d _ _ _ c)
  refine .step j (λv c=>?_) λv g' v' es c k=>?_
  .have:=h v (d _ _ _ c);revert this;cases KC P main g v<;>simp only[GStep.goes,aem];exact λx=>i _ _ _ _ x.1
  have:=h v (d _ _ _ c);rw[k]at this;exact an.of_goes d i this.2
def an.frame(z:Trans R){K:Nat->Prop}(hK:∀M v v' es,D M v v' es->∀b,K b->¬M b->b<(v:Nat)->v'.heap[b]?=v.heap[b]?)
 (o:∀M v v' es,D M v v' es->D (λb=>M b\/K b) v v' es)(p:∀M v v' es,D M v v' es->(v:Nat)<=v'/\v'.tape=v.tape/\v'.os=v.os/\v'.output=v.output)
 {g:Ar}{M:Nat->Prop}{w:AK}(h:an P main R D Stop g M w)(q:∀b,K b->¬M b/\b<(w:Nat)):
 an P main R D (λg M' v=>∃M₁,(∀b,M' b↔M₁ b\/K b)/\Stop g M₁ v/\∀b,K b->v.heap[b]?=w.heap[b]?) g (λb=>M b\/K b) w:=by
 have j:∀{g:Ar}{M:Nat->Prop}{w₁:AK},an P main R D Stop g M w₁->∀M',(∀b,M' b↔M b\/K b)->(∀b,K b->¬M b/\b<(w₁:Nat))->(∀b,K b->w₁.heap[b]?=w.heap[b]?)->
  an P main R D (λg M' v=>∃M₁,(∀b,M' b↔M₁ b\/K b)/\Stop g M₁ v/\∀b,K b->v.heap[b]?=w.heap[b]?) g M' w₁:=by
  intro g M w₁ h;induction h with
  |stop h=>
   intro M' c f l;rename_i g M w₁;have d:∀{v},Rel R M' w₁ v->Rel R M w₁ v:=λr=>⟨r.tape,r.os,r.out,r.size,λb a=>r.mine b ((c b).2 (.inl a)),r.more⟩;exact .stop λv e=>⟨M,c,h v (d e),λb a=>(e.mine b ((c b).2 (.inr a))).trans (l b a)⟩
  |step s h k t=>
   intro M' c f l;rename_i g M w₁;have d:∀{v},Rel R M' w₁ v->Rel R M w₁ v:=λr=>⟨r.tape,r.os,r.out,r.size,λb a=>r.mine b ((c b).2 (.inl a)),r.more⟩;have u:M'=λb=>M b\/K b:=funext λb=>propext (c b);refine .step s (λv e=>?_) λv g' v' es e m=>?_
   .have:=h v (d e);revert this;cases KC P main g v<;>simp only[GStep.goes,aem];intro x;rw[u];exact o _ _ _ _ x
   have i:D M v v' es:=by
    have:=h v (d e);rw[m]at this;exact this
   have y:=(p _ _ _ _ i).1;refine t v g' v' es (d e) m (bP M' v v') (λb=>?_) (λb a=>?_) λb a=>?_
   .constructor
    .rintro(a|a)
     .exact((c b).1 a).elim (λx=>.inl (.inl x)) .inr
     exact .inl (.inr a)
    rintro((a|a)|a)
    .exact .inl ((c b).2 (.inl a))
    .exact .inr a
    exact .inl ((c b).2 (.inr a))
   .have:=f b a;have A:=e.size;refine⟨?_,oM⟩;rintro(n|n)
    .exact this.1 n
    omega
   rw[hK _ _ _ _ i b a (f b a).1 (ZB (f b a).2 e.size),e.mine b ((c b).2 (.inr a))];exact l b a
 exact j h _ (λ_=>Iff.rfl) q λ_ _=>rfl
end
end
def Zw:=@Conc.stepG_region_end
def ZH:=@Conc.stepG_seq
def ZQ:=@ConcN.cell_of_block
def aaw:=@Conc.listed_nil
def aaH:=@Conc.mem_ofEvents
def aaN:=@ConcN.upd_same
def aaR:=@ConcR.g_of_ofEvents
def aa4:=@Conc.getElem?_append_cases
def abf:=@Conc.mem_listed
def abg:=@Conc.Goes.stop
def abn:=@Conc.stepG_skip
def abK:=@ConcN.upd_ne
def abL:=@Conc.aside_setCell
def abQ:=@Conc.stepG_ret'
def abV:=@Conc.Deaf_other
def acj:=@Conc.stepG_block
def ack:=@ConcR.ofEvent_cell
def acm:=@ConcN.get_map_set
def acN:=@Conc.stepG_cond
def acU:=@Conc.stepG_region
def acV:=@ConcN.get_map_set_same
def ac1:=@Conc.runT_crowd_go
def adu:=@ConcR.ofEvent_loc_mark
def adG:=@Conc.stepG_inBlock
def adV:=@Conc.stepG_markAt
def adW:=@Conc.stepG_inLoop
def adX:=@ConcN.RW.refl
def aea:=@Conc.stepG_mark0
def aeo:=@Conc.enter_at
def aeM:=@MemAct.low_mono
section
open Go.Conc
variable{Stop:Ar->(Nat->Prop)->AK->Prop}{args:Array Operand}{ats:Array E1}{b:K0}{c:Code}{cs:List K0}{f:FuncId}{fn':Func}{i:Nat}{k:List Item}{rest:List Nat}
def al{M:Nat->Prop}{v v':AK}(h:(v':Nat)=v):bP M v v'=M:=funext λb=>propext ⟨λa=>a.elim id λa=>oM,.inl⟩
section
variable{P:E2}{main:Bool}{R:AK->AK->Prop}{D D':(Nat->Prop)->AK->AK->Array Nc->Prop}{Stop:Ar->(Nat->Prop)->AK->Prop}{g:Ar}{M:Nat->Prop}{w:AK}
def an.keepD{J:(Nat->Prop)->AK->Prop}(d:∀M w v,J M w->Rel R M w v->J M v)(j:∀M v v' es,J M v->D M v v' es->D' M v v' es/\J (bP M v v') v')(h:an P main R D Stop g M w)(e:J M w):
 an P main R D' (λg M w=>Stop g M w/\J M w) g M w:=by
 induction h with
 |stop h=>exact .stop λv a=>⟨h v a,d _ _ _ e a⟩
 |step n h _ o=>
  refine .step n (λv a=>?_) λv g' v' es a l=>?_
  .have:=h v a;revert this;cases KC P main _ v<;>simp only[GStep.goes,aem];exact λx=>(j _ _ _ _ (d _ _ _ e a) x).1
  have m:=h v a;rw[l]at m;exact o v g' v' es a l (j _ _ _ _ (d _ _ _ e a) m).2
def an.ctl(d:Trans R){g':Ar}(e:g.status=.running)(j:∀v,Rel R M w v->D M v v #[])(l:∀v,KC P main g v=.go g' v #[])(h:an P main R D Stop g' M w):an P main R D Stop g M w:=
 .one e λv a=>⟨g',v,#[],l v,j v a,by rw[al rfl];exact h.rely d a⟩
end
section
variable(P:E2)(main:Bool)(R:AK->AK->Prop)(D:(Nat->Prop)->AK->AK->Array Nc->Prop)(fn:FuncId)(ops:Array Oper)
def pJ(todo:List Nat)(Q:Act->(Nat->Prop)->AK->Prop)(a:Act)(M:Nat->Prop)(w:AK):Prop:=
 ∀(b:K0)(k:List Item)(cs:List K0)(Stop:Ar->(Nat->Prop)->AK->Prop),b.fn=fn->b.kind≠.early->
  (∀a' M' w',Q a' M' w'->an P main R D Stop (G (b.at a' k) cs) M' w')->an P main R D Stop (G (b.at a (.inRegion ops todo::k)) cs) M w
def OpD(i:Nat)(K:Act->(Nat->Prop)->AK->Prop)(a:Act)(M:Nat->Prop)(w:AK):Prop:=
 ∀(rest:List Nat)(Q:Act->(Nat->Prop)->AK->Prop),(∀a' M' w',K a' M' w'->pJ P main R D fn ops rest Q a' M' w')->pJ P main R D fn ops (i::rest) Q a M w
def Lp(md:Region.Mode)(Q:Act->(Nat->Prop)->AK->Prop):Nat->Array Bool->Act->(Nat->Prop)->AK->Prop
 |0,listed,a,M,w=>Region.ready md ops listed=[]/\Q a M w
 |fuel+1,listed,a,M,w=>(Region.ready md ops listed=[]->Q a M w)/\∀i∈Region.ready md ops listed,OpD P main R D fn ops i (λa' M' w'=>Lp md Q fuel (listed.setIfInBounds i true) a' M' w') a M w
end
section
variable{P:E2}{main:Bool}{R:AK->AK->Prop}{D:(Nat->Prop)->AK->AK->Array Nc->Prop}{fn:FuncId}{ops:Array Oper}{Q:Act->(Nat->Prop)->AK->Prop}{a:Act}{M:Nat->Prop}{w:AK}
def bL(d:Trans R)(e:∀v,Rel R M w v->D M v v #[])(h:Q a M w):pJ P main R D fn ops [] Q a M w:=λb k cs Stop _ _ g=>
 .ctl d rfl e (λv=>Zw) (g _ _ _ h)
def aB{o:Oper}(g:ops[i]?=o)(j:Region.wanted o (yielded ops a.tmps))
 (h:∀v,Rel R M w v->∀K:Act->AK->Prop,(∀a' w',D M v w' (listed P fn a o v)/\pJ P main R D fn ops rest Q a' (bP M v w') w'->K a' w')->uponK o a K ((Lk a.eval o).run P v)):pJ P main R D fn ops (i::rest) Q a M w:=by
 intro b k cs Stop d e l;refine .one rfl λv n=>?_;have:=h v n _ λ_ _ x=>x;generalize m:(Lk a.eval o).run P v=r at this
 match r,this with
 |.ok (.value x) w',this=>exact⟨_,_,_,stepG_value g j e m,d▸this.1,this.2 b k cs Stop d e l⟩
 |.ok .skip w',this=>exact⟨_,_,_,stepG_none g j e m,d▸this.1,this.2 b k cs Stop d e l⟩
def ee{o:Oper}{d:Act->(Nat->Prop)->AK->Prop}(e:ops[i]?=o)(g:Region.wanted o (yielded ops a.tmps))
 (h:∀v,Rel R M w v->∀K:Act->AK->Prop,(∀a' w',D M v w' (listed P fn a o v)/\d a' (bP M v w') w'->K a' w')->uponK o a K ((Lk a.eval o).run P v)):OpD P main R D fn ops i d a M w:=
 λrest Q hK=>aB e g λv j K l=>h v j K λa' w' x=>l a' w' ⟨x.1,hK _ _ _ x.2⟩
def zL(n:Trans R)(s:∀v,Rel R M w v->D M v v #[]){o:Oper}{K:Act->(Nat->Prop)->AK->Prop}
 (p:ops[i]?=o)(t:Region.wanted o (yielded ops a.tmps))(e:o.op=.call {callee:=.value (.func f),args,argTypes:=ats})(q:P.funcs[f]?=fn')(d:(fn'.name== "runtime.NumGoroutine")=false)(u:fn'.body=c)
 (h:∀(fr:K0)(cs:List K0),an P main R D (λg M' w'=>∃x,g=G (fr.finish x) cs/\K (a.put o.dst x) M' w') (G (Frame.enter P f (args.map a.eval) .normal) (fr::cs)) M w):OpD P main R D fn ops i K a M w:=by
 intro rest Q hK b k cs Stop m r y;have j:fn'.body.isNone=false:=by rw[u];rfl
 have z:∀v,listed P b.fn a o v=#[]:=λv=>by unfold listed;rw[events_call_body e q d j];exact seen_none P _
 refine .ctl n rfl s (λv=>by rw[stepG_enter p t r (run_call_body e q d j),z]) ?_;refine aen n (h (b.at a (.inRegion ops (i::rest)::k)) cs) ?_;rintro g M' w'⟨x,rfl,A⟩;have l:(b.at a (.inRegion ops (i::rest)::k)).finish x=b.at (a.put o.dst x) (.inRegion ops rest::k):=by rw[acG,p];rfl
 rw[l];exact hK _ _ _ A b k cs Stop m r y
def Gd(j:Trans R)(l:∀v,Rel R M w v->D M v v #[]){o:Oper}{K:Aq->(Nat->Prop)->AK->Prop}
 (m:ops[i]?=o)(n:Region.wanted o (yielded ops a.tmps))(e:o.op=.call {callee:=.value (.func f),args,argTypes:=ats})(p:P.funcs[f]?=fn')(d:(fn'.name== "runtime.NumGoroutine")=false)(q:fn'.body=c)
 (h:∀(fr:K0)(cs:List K0),an P main R D (λg M' w'=>∃x,g=G (fr.finish x) cs/\K x M' w') (G (Frame.enter P f (args.map a.eval) .normal) (fr::cs)) M w)
 (r:∀x M' w',K x M' w'->pJ P main R D fn ops rest Q (a.put o.dst x) M' w'):pJ P main R D fn ops (i::rest) Q a M w:=
 zL (K:=λa' M' w'=>∃x,a'=a.put o.dst x/\K x M' w') j l m n e p d q (λfr cs=>(h fr cs).mono (λ_ _ h=>h) (λ_ _ _ _ h=>h) λg M' w' ⟨x,h1,h2⟩=>⟨x,h1,x,rfl,h2⟩) rest Q λa' M' w' ⟨x,h1,h2⟩=>h1▸r x M' w' h2
def Cm{o:Oper}{e:Array Aq->Sem Aq}
 (n:ops[i]?=o)(p:Region.wanted o (yielded ops a.tmps))(j:o.op=.call {callee:=.value (.func f),args,argTypes:=ats})(q:P.funcs[f]?=fn')(d:(fn'.name== "runtime.NumGoroutine")=false)(r:fn'.body.isNone)(s:Extern.findNext fn'=none)(t:Extern.find fn'=e)
 (h:∀v,Rel R M w v->∃x w' evs,(e (args.map a.eval)).run P v=.ok x w'/\(e (args.map a.eval)).events P v #[⟨.mark (.extern f),false,true⟩]=#[⟨.mark (.extern f),false,true⟩]++evs/\(∀x∈evs,x.sync/\∀g,x.loc≠.mark (.extern g))/\
  D M v w' evs/\pJ P main R D fn ops rest Q (a.put o.dst x) (bP M v w') w'):pJ P main R D fn ops (i::rest) Q a M w:=by
 intro b k cs Stop l m u;refine .one rfl λv y=>?_;obtain⟨x,w',evs,z,A,B,C,E⟩:=h v y;exact⟨_,_,_,stepG_entry n p m j q d r s t z A B,C,E b k cs Stop l m u⟩
def xR(d:Trans R)(e:∀v,Rel R M w v->D M v v #[]){id:Nat}(g:b.fn=fn)(j:b.kind≠.early)
 (h:pJ P main R D fn ops (List.range ops.size) Q a M w)(l:∀a' M' w',Q a' M' w'->an P main R D Stop (G (b.at a' k) cs) M' w'):an P main R D Stop (G (b.at a (.code (.region id ops false)::k)) cs) M w:=
 .ctl d rfl e (λv=>acU) (h b k cs Stop g j l)
def ck(d:Trans R)(e:∀v,Rel R M w v->D M v v #[]){id:Nat}(g:b.fn=fn)(j:b.kind≠.early)
 (h:pJ P main R D fn ops (List.range ops.size) (λa' M' w'=>an P main R D Stop (G (b.at a' k) cs) M' w') a M w):an P main R D Stop (G (b.at a (.code (.region id ops false)::k)) cs) M w:=
 xR d e g j h λ_ _ _ h=>h
def Dl(j:Trans R)(l:∀M v,D M v v #[]){md:Region.Mode}:∀(fuel t:Nat)(listed:Array Bool)(a:Act)(M:Nat->Prop)(w:AK),Lp P main R D fn ops md Q fuel listed a M w->
 pJ P main R D fn ops (Region.linearise.go md ops fuel t listed []) Q a M w:=by
 intro fuel;induction fuel with
 |zero=>intro t listed a M w h;simpa[Region.linearise.go]using bL j (λv _=>l M v) h.2
 |succ fuel n=>
  intro t listed a M w h;obtain⟨h₀,h₁⟩:=h;simp only[Region.linearise.go];change pJ P main R D fn ops (match(Region.ready md ops listed)[t%(Region.ready md ops listed)]? with
   |some i=>Region.linearise.go md ops fuel (t/(Region.ready md ops listed)) (listed.setIfInBounds i true) [i]
   |none=>[].reverse) Q a M w
  cases e:(Region.ready md ops listed)[t%(Region.ready md ops listed)]? with
  |none=>
   have d:Region.ready md ops listed=[]:=by
    cases o:Region.ready md ops listed with
    |nil=>rfl
    |cons x m=>
     rw[o]at e;have g:t%(x::m)<(x::m):=aa1 _ sM;simp at e;simp at g;omega
   simpa using bL j (λv _=>l M v) (h₀ d)
  |some i=>
   simp only[];rw[linearise_go_acc,List.reverse_singleton,List.singleton_append];exact h₁ i (aae e) _ _ λa' M' w' p=>n _ _ a' M' w' p
def Db(ops:Array Oper):Bool:=(List.range ops.size).all λi=>match ops[i]? with|some o=>o.after.all λe=>decide (e.on<i)|none=>true
def te{md:Region.Mode}{ops:Array Oper}{listed:Array Bool}(r:Db ops)(s:listed.size=ops.size)(g:listed.getD i true=false):Region.ready md ops listed≠[]:=by
 intro t;have l:∀n i,i<n->listed.getD i true=false->False:=by
  intro n;induction n with
  |zero=>intro i h;omega
  |succ n u=>
   intro i v g;have m:i<listed.size:=by
    rcases aa8 i listed.size with h|h
    .exact h
    rw[aay,abh h]at g;cases g
   have j:i<ops.size:=s▸m;have o:ops[i]?=ops[i]:=Z5 j;have d:=acb.1 r i (ado.2 j);simp only[o]at d;have:i∈Region.ready md ops listed:=by
    refine mem_ready.2 ⟨g,_,o,λe x _=>?_⟩;(have p:e.on<i:=by simpa using ZY.1 d e x);cases q:listed.getD e.on false with
    |true=>rfl
    |false=>
     exfalso;refine u e.on oM ?_;rw[aay,Z5 oM]at q⊢;simpa using q
   rw[t]at this;cases this
 exact l (i+1) i oM g
def tM(e:Trans R)(g:∀M v,D M v v #[])(j:∀v,Rel R M w v->D M v {v with drawn:=v.drawn+1} #[])(l:P.follows .mixedOrders){id:Nat}(m:b.fn=fn)(n:b.kind≠.early)
 (h:∀v,Rel R M w v->Lp P main R D fn ops .any Q ops.size (Array.replicate ops.size false) a M {v with drawn:=v.drawn+1})(o:∀a' M' w',Q a' M' w'->an P main R D Stop (G (b.at a' k) cs) M' w'):an P main R D Stop (G (b.at a (.code (.region id ops true)::k)) cs) M w:=by
 refine .one rfl λv d=>⟨_,_,_,stepG_region_draw,j v d,?_⟩;rw[al (v:=v) (v':={v with drawn:=v.drawn+1}) rfl];simp only[Region.schedule,l,Bool.true_or,aba];exact Dl e g _ _ _ _ _ _ (h v d) b k cs Stop m n o
end
end
section
open Go.Conc
variable{M':Nat->Prop}{a:Es}{b:Bool}{i:Nat}{v x:Aq}{w:AK}{α:Type}
def dt{α:Type}:Result α->AK
 |.ok _ w=>w
 |.halt _ w=>w
def KZ(x:Ask α):∀w:AK,w.drawn<=(w.ask x).2.drawn/\(w.ask x).2.heap=w.heap:=by
 induction x with
 |done a=>intro w;exact⟨Zo _,rfl⟩
 |ask d c k e=>
  intro w;simp only[World.ask];split
  .exact e _ w
  have:=e (Question.cut (.extern d c) (w.tape w.drawn (.extern d c))) {w with drawn:=w.drawn+1};exact⟨Zz (ade _) this.1,this.2⟩
def HQ(c:Sys)(w:AK):w.drawn<=(w.sys c).2.drawn/\(w.sys c).2.heap=w.heap:=by
 unfold World.sys;have h:=KZ (Kernel.perform c w.os) w;generalize d:w.ask (Kernel.perform c w.os)=x at h;obtain⟨⟨r,e⟩,w'⟩:=x;cases r<;>first|exact h|exact⟨Zo _,rfl⟩
def uY{p:E2}{w':AK}{d:Bool}{l:List Es}(h:w.farStore p a v d=.ok (w',l)):w'.drawn=w.drawn/\(w':Nat)=w:=by
 unfold World.farStore at h;split at h
 .rename_i b u f;cases c:w.viewStore p b u a v d with
  |error e=>rw[c]at h;cases h
  |ok r=>
   rw[c]at h;simp only[Except.ok.injEq]at h;subst h;unfold World.viewStore at c;simp only[bind,Except.bind,pure,Except.pure]at c;(repeat' split at c);all_goals first|cases c;done|(injection c with c;injection c with h1 h2;subst h1;exact⟨rfl,sM⟩)
 cases h
def oL(P:E2)(s:Sem α):∀(w:AK)(es:Array Nc),w.drawn<=(dt (s.runT P w es).1).drawn/\(w:Nat)<=((dt (s.runT P w es).1):Nat):=by
 induction s with
 |pure a=>intro w es;exact⟨Zo _,Zo _⟩
 |load m a k d=>
  intro w es;simp only[Sem.runT];split
  .exact d _ w _
  split
  .exact d _ w _
  exact⟨Zo _,Zo _⟩
 |store m a v k d=>
  intro w es;have g:∀e,w.drawn<=(dt ((match w a with
   |some _=>
    if w.frozen? a then((.halt (.unsupported (.unsafePointer "a write to bytes that a string shares")) w:Result α),e)
    else k.runT P (w.setCell a v) (e.push ⟨.cell a,true,m==.atomic⟩)
   |none=>match w.farStore P a v (m==.atomic)with
    |.ok (w,f)=>k.runT P w (e++f.toArray.map (⟨.cell ·,true,m==.atomic⟩))
    |.error h=>(.halt h w,e)):Result α×Array Nc).1).drawn/\(w:Nat)<=((dt ((match w a with
   |some _=>
    if w.frozen? a then((.halt (.unsupported (.unsafePointer "a write to bytes that a string shares")) w:Result α),e)
    else k.runT P (w.setCell a v) (e.push ⟨.cell a,true,m==.atomic⟩)
   |none=>match w.farStore P a v (m==.atomic)with
    |.ok (w,f)=>k.runT P w (e++f.toArray.map (⟨.cell ·,true,m==.atomic⟩))
    |.error h=>(.halt h w,e)):Result α×Array Nc).1):Nat):=by
   intro e;split
   .split
    .exact⟨Zo _,Zo _⟩
    have:=d (w.setCell a v) (e.push ⟨.cell a,true,m==.atomic⟩);simpa[World.setCell]using this
   split
   .rename_i w' l p;have j:=uY p;have:=d w' (e++l.toArray.map (⟨.cell ·,true,m==.atomic⟩));rw[j.1,j.2]at this;exact this
   exact⟨Zo _,Zo _⟩
  cases v<;>first|exact g es|exact⟨Zo _,Zo _⟩
 |new o k d=>
  intro w es;have:=d (w:Nat) {w with heap:=w.heap.push o} es;simp only[Sem.runT];exact⟨this.1,Zz sM this.2⟩
 |shape r k d=>intro w es;exact d _ w es
 |freeze a n k d=>
  intro w es;simp only[Sem.runT];have:=d (w.freeze a n) es;have t:(w.freeze a n).drawn=w.drawn:=by unfold World.freeze;split<;>rfl
  have u:((w.freeze a n):Nat)=(w:Nat):=by unfold World.freeze;split<;>simp
  rw[t,u]at this;exact this
 |frozen a k d=>intro w es;exact d _ w es
 |getObj r k d=>
  intro w es;simp only[Sem.runT];split
  .exact⟨Zo _,Zo _⟩
  .exact d _ w _
  exact⟨Zo _,Zo _⟩
 |setObj r o k d=>
  intro w es;simp only[Sem.runT];split
  .exact⟨Zo _,Zo _⟩
  .have:=d {w with heap:=w.heap.setIfInBounds r o} (es.push ⟨.obj r,true,o.isChan⟩);simpa using this
  exact⟨Zo _,Zo _⟩
 |choose q k d=>
  intro w es;simp only[Sem.runT];split
  .exact d _ w es
  have:=d (q.cut (w.tape w.drawn q)) {w with drawn:=w.drawn+1} es;exact⟨Zz (ade _) this.1,this.2⟩
 |sys c k d=>
  intro w es;simp only[Sem.runT];have h:=HQ c w;have:=d (w.sys c).1 (w.sys c).2 (es.push ⟨.output,true,false⟩);rw[h.2]at this;exact⟨Zz h.1 this.1,this.2⟩
 |program k d=>intro w es;exact d P w es
 |mark m k d=>intro w es;exact d w _
 |halt h=>intro w es;exact⟨Zo _,Zo _⟩
inductive Nv(good:Nat->Bool):Aq->Prop
 |bool (b:Bool):Nv good (.bool b)
 |int (k:IntKind) (n:Int):Nv good (.int k n)
 |string (s:ByteArray):Nv good (.string s)
 |nilFunc:Nv good .nilFunc
 |func (f:Nat) (h:good f):Nv good (.func (.func f) #[] #[])
 |agg (cs:Array Aq) (h:∀c,c∈cs->Nv good c):Nv good (.agg cs)
 |tuple (vs:Array Aq) (h:∀v,v∈vs->Nv good v):Nv good (.tuple vs)
def eF(σ:Nat->Nat)(a:Es):Es:={a with block:=σ a.block}
def ren(σ:Nat->Nat):Aq->Aq
 |.pointer (some a)=>.pointer (some (eF σ a))
 |.slice (some a) l c=>.slice (some (eF σ a)) l c
 |v=>v
def lP{c:Nat->Bool}{σ:Nat->Nat}(h:Nv c v):ren σ v=v:=by cases h<;>rfl
def lQ(σ:Nat->Nat)(a:Es)(n:Nat):eF σ (a.add n)=(eF σ a).add n:=by unfold eF Addr.add;split<;>rfl
def ot(h:Halt):Prop:=(∃s,h=.stuck s)\/∃u,h=.unsupported u/\∀b,u≠.initOrder b
inductive SEq(P:E2)(good:Nat->Bool)(σ:Nat->Nat){α:Type}(Q:α->α->Prop):Sem α->Sem α->Prop
 |pure {a a':α}:Q a a'->SEq P good σ Q (.pure a) (.pure a')
 |load {a:Es} {k k':Aq->Sem α}:(∀v,Nv good v->SEq P good σ Q (k v) (k' v))->SEq P good σ Q (.load .plain a k) (.load .plain (eF σ a) k')
 |store {a:Es} {v:Aq} {k k':Sem α}:Nv good v->SEq P good σ Q k k'->SEq P good σ Q (.store .plain a v k) (.store .plain (eF σ a) v k')
 |new {cs:Array Aq} {e:E1} {k k':Nat->Sem α}:(∀v,v∈cs->Nv good v)->(∀r,SEq P good σ Q (k r) (k' (σ r)))->SEq P good σ Q (.new (.cells cs e) k) (.new (.cells cs e) k')
 |choose {q:Question} {k k':Nat->Sem α}:(∀n,SEq P good σ Q (k n) (k' n))->SEq P good σ Q (.choose q k) (.choose q k')
 |program {k k':E2->Sem α}:SEq P good σ Q (k P) (k' P)->SEq P good σ Q (.program k) (.program k')
 |mark {f:Nat} {k k':Sem α}:SEq P good σ Q k k'->SEq P good σ Q (.mark (.extern f) k) (.mark (.extern f) k')
 |panic {v:Aq}:SEq P good σ Q (.halt (.panic v)) (.halt (.panic v))
 |halt {h:Halt} {s':Sem α}:ot h->SEq P good σ Q (.halt h) s'
section
variable{P:E2}{good:Nat->Bool}{σ:Nat->Nat}{α β:Type}{Q:α->α->Prop}{Q':β->β->Prop}
def SEq.stuck{c:String}{s':Sem α}:SEq P good σ Q (Go.stuck c) s':=.halt (.inl ⟨_,rfl⟩)
def aep:=@SEq.stuck
def SEq.unsup{u:Unsupported}{s':Sem α}(h:∀b,u≠.initOrder b):SEq P good σ Q (Go.unsupported u) s':=.halt (.inr ⟨_,rfl,h⟩)
def aeq:=@SEq.unsup
def SEq.bind{s s':Sem α}{f f':α->Sem β}(h:SEq P good σ Q s s')(k:∀a a',Q a a'->SEq P good σ Q' (f a) (f' a')):SEq P good σ Q' (s.bind f) (s'.bind f'):=by
 induction h with
 |pure h=>exact k _ _ h
 |load _ c=>exact .load λv d=>c v d
 |store d _ c=>exact .store d c
 |new e _ c=>exact .new e λr=>c r
 |choose _ c=>exact .choose λn=>c n
 |program _ c=>exact .program c
 |mark _ c=>exact .mark c
 |panic=>exact .panic
 |halt h=>exact .halt h
def SEq.mono{s s':Sem α}{R:α->α->Prop}(h:SEq P good σ Q s s')(k:∀a a',Q a a'->R a a'):SEq P good σ R s s':=by
 induction h with
 |pure h=>exact .pure (k _ _ h)
 |load _ c=>exact .load c
 |store d _ c=>exact .store d c
 |new e _ c=>exact .new e c
 |choose _ c=>exact .choose c
 |program _ c=>exact .program c
 |mark _ c=>exact .mark c
 |panic=>exact .panic
 |halt h=>exact .halt h
end
structure WR(good:Nat->Bool)(σ:Nat->Nat)(s0:Nat)(Keep:Nat->Prop)(M:Nat->Prop)(wl v:AK):Prop where
 cells:∀(b:Nat)(o:Obj),wl.heap[b]?=o->∃cs e fz,o=Obj.cells cs e fz/\∀c,c∈cs->Nv good c
 old:∀(b:Nat)(cs:Array Aq)(e:E1)(fz:Nat×Nat),wl.heap[b]?=some (.cells cs e fz)->b<s0->cs.size≠0->fz=(0,cs.size)/\Keep b/\∃fz',v.heap[b]?=some (.cells cs e fz')
 own:∀(b:Nat)(cs:Array Aq)(e:E1)(fz:Nat×Nat),wl.heap[b]?=some (.cells cs e fz)->s0<=b->fz=(0,0)/\M (σ b)/\v.heap[σ b]?=some (.cells cs e (0,0))
 ids:∀b,b<s0->σ b=b
 inj:∀b b',s0<=b->b<(wl:Nat)->s0<=b'->b'<(wl:Nat)->σ b=σ b'->b=b'
 base:s0<=wl
 mb:∀b,M b->b<(v:Nat)
 kb:∀b,Keep b->b<(v:Nat)/\¬M b
def ov(M Keep:Nat->Prop)(e:Nc):Prop:=(∃f,e.loc=.mark (.extern f))\/∃a,e.loc=.cell a/\e.sync=false/\(M a.block\/(e.write=false/\Keep a.block))
structure Does(M:Nat->Prop)(v v':AK):Prop where
 tape:v'.tape=v.tape
 os:v'.os=v.os
 out:v'.output=v.output
 size:(v:Nat)<=v'
 drawn:v.drawn<=v'.drawn
 rest:∀(b:Nat),¬M b->b<v->v'.heap[b]?=v.heap[b]?
def Does.refl(M:Nat->Prop)(v:AK):Does M v v:=⟨rfl,rfl,rfl,Zo _,Zo _,λ_ _ _=>rfl⟩
structure Ran(good:Nat->Bool)(σ:Nat->Nat)(s0:Nat)(Keep M:Nat->Prop)(wl v wl' v':AK):Prop where
 wr:WR good σ s0 Keep (bP M v v') wl' v'
 does:Does M v v'
 ltape:wl'.tape=wl.tape
 ldrawn:wl'.drawn=wl.drawn+(v'.drawn-v.drawn)
 lsize:(wl':Nat)=(wl:Nat)+((v':Nat)-(v:Nat))
section
variable{P:E2}{good:Nat->Bool}{σ:Nat->Nat}{s0:Nat}{Keep M:Nat->Prop}{wl v:AK}
def WR.load(h:WR good σ s0 Keep M wl v)(c:wl a=x):v (eF σ a)=x/\Nv good x/\(M (σ a.block)\/Keep (σ a.block)):=by
 unfold World.cell? at c;split at c
 .rename_i cs e fz g;split at c
  .cases c
  rename_i n;obtain⟨o,s,j,k,p⟩:=h.cells _ _ g;cases k;have l:cs.size≠0:=by intro t;have:=Zq.1 c;obtain⟨u,_⟩:=this;omega
  have f:Nv good x:=p x (ZS c);by_cases d:a.block<s0
  .obtain⟨_,q,j,m⟩:=h.old _ _ _ _ g d l;refine⟨?_,f,.inr (by rw[h.ids _ d];exact q)⟩;unfold World.cell?;simp only[eF,h.ids _ d,m,n,acd];exact c
  obtain⟨_,r,m⟩:=h.own _ _ _ _ g oM;refine⟨?_,f,.inl r⟩;unfold World.cell?;simp only[eF,m,n,acd];exact c
 cases c
def WR.noFar(h:WR good σ s0 Keep M wl v)(f:wl a=none):∃e,wl.farLoad P a b=.error (.stuck e):=by
 unfold World.farLoad;split
 .rename_i x u c;obtain⟨_,_,_,d,_⟩:=h.cells _ _ c;cases d
 unfold World.noCell;split
 .rename_i c;obtain⟨_,_,_,d,_⟩:=h.cells _ _ c;cases d
 .rename_i c;obtain⟨_,_,_,d,_⟩:=h.cells _ _ c;cases d
 exact⟨_,rfl⟩
def WR.noFarS(h:WR good σ s0 Keep M wl v)(f:wl a=none):∃e,wl.farStore P a x b=.error (.stuck e):=by
 unfold World.farStore;split
 .rename_i y u c;obtain⟨_,_,_,d,_⟩:=h.cells _ _ c;cases d
 unfold World.noCell;split
 .rename_i c;obtain⟨_,_,_,d,_⟩:=h.cells _ _ c;cases d
 .rename_i c;obtain⟨_,_,_,d,_⟩:=h.cells _ _ c;cases d
 exact⟨_,rfl⟩
end
def gi{x:Array α}{j:Nat}{a b:α}(h:(x.setIfInBounds i a)[j]?=b):(i=j/\b=a)\/x[j]?=b:=by
 by_cases c:i=j
 .subst c;by_cases d:i<x.size
  .rw[Z0 d]at h;exact .inl ⟨rfl,(ZO h).symm⟩
  rw[abh (by simpa using adw d)]at h;cases h
 rw[ZF c]at h;exact .inr h
def bj{b:Nat}:(w.setCell a x).heap[b]?=if a.block=b then(w.heap[b]?).map (λ|.cells c d frozen=>Obj.cells (if a.spot.isSome then c else c.setIfInBounds a.off x) d frozen|o=>o)else w.heap[b]?:=by
 unfold World.setCell;simp only[aaD];rfl
section
variable{P:E2}{good:Nat->Bool}{σ:Nat->Nat}{s0:Nat}{Keep M:Nat->Prop}{wl v:AK}
def WR.mono(h:WR good σ s0 Keep M wl v)(g:∀b,M b->M' b)(j:∀b,M' b->b<(v:Nat))(k:∀b,Keep b->¬M' b):WR good σ s0 Keep M' wl v:=
 ⟨h.cells,h.old,λb cs e fz l m=>let⟨a,c,d⟩:=h.own b cs e fz l m;⟨a,g _ c,d⟩,h.ids,h.inj,h.base,j,λb f=>⟨(h.kb b f).1,k b f⟩⟩
def WR.set(h:WR good σ s0 Keep M wl v){y:Aq}(n:wl a=y)(z:wl.frozen? a=false)(L:Nv good x):
 v.frozen? (eF σ a)=false/\M (σ a.block)/\WR good σ s0 Keep M (wl.setCell a x) (v.setCell (eF σ a) x):=by
 unfold World.cell? at n;split at n
 .rename_i cs e fz k;split at n
  .cases n
  rename_i p;have I:a.off<cs.size:=(Zq.1 n).1;have q:s0<=a.block:=by
   apply abP;intro r;obtain⟨rfl,_⟩:=h.old _ _ _ _ k oM oM;unfold World.frozen? at z;rw[k]at z;simp at z;omega
  obtain⟨rfl,A,J⟩:=h.own _ _ _ _ k q;have r:a.block<wl:=(Zq.1 k).1;refine⟨?_,A,?_⟩
  .unfold World.frozen?;simp only[eF,J];simp
  refine⟨?_,?_,?_,h.ids,?_,?_,?_,?_⟩
  .intro b o d;rw[bj]at d;split at d
   .rename_i g;subst g;rw[k]at d;simp only[aaJ,Zt]at d;subst d;obtain⟨_,_,_,f,B⟩:=h.cells _ _ k;cases f;refine⟨_,_,_,rfl,λc C=>?_⟩;replace C:c∈cs.setIfInBounds a.off x:=by
     obtain⟨N,O,l⟩:=a;cases l with
     |some _=>exact absurd rfl p
     |none=>exact C
    obtain⟨i,D⟩:=aaF.1 C;rcases gi D with⟨_,rfl⟩|D
    .exact L
    exact B c (ZS D)
   exact h.cells b o d
  .intro b E Q F d s G;rw[bj]at d;rw[Zr oM]at d;obtain⟨t,m,H,u⟩:=h.old _ _ _ _ d s G;refine⟨t,m,H,?_⟩;rw[bj,Zr ?_]
   .exact u
   intro f;exact(h.kb b m).2 (f▸A)
  .intro b E Q F d j;rw[bj]at d;split at d
   .rename_i g;subst g;rw[k]at d;simp only[aaJ,Zt,ac5]at d;obtain⟨rfl,rfl,rfl⟩:=d;refine⟨rfl,A,?_⟩;rw[bj];simp only[eF,aba,J,aaJ];obtain⟨N,O,l⟩:=a;cases l with
    |some _=>exact absurd rfl p
    |none=>rfl
   rename_i g;obtain⟨t,m,u⟩:=h.own _ _ _ _ d j;refine⟨t,m,?_⟩;rw[bj,Zr]
   .exact u
   intro f;simp only[eF]at f;exact g (h.inj _ _ q r j (Zq.1 d).1 f)
  .intro b R t m u K S;simp only[World.setCell,acr]at m K;exact h.inj b R t m u K S
  .simp only[World.setCell,acr];exact h.base
  .simp only[World.setCell,acr];exact h.mb
  simp only[World.setCell,acr];exact h.kb
 cases n
def gK{x:Array α}{a b:α}(h:(x.push a)[i]?=b):(i=x.size/\b=a)\/(i<x.size/\x[i]?=b):=by
 rw[aa6]at h;split at h
 .exact .inl ⟨asT,(ZO h).symm⟩
 exact .inr ⟨(Zq.1 h).1,h⟩
def l5{x:Array α}{a b:α}(h:x[i]?=b):(x.push a)[i]?=b:=by
 have:=(Zq.1 h).1;rw[aa6,Zr oM,h]
def WR.ownAt(h:WR good σ s0 Keep M wl v){b:Nat}(d:s0<=b)(f:b<wl):σ b<v:=by
 have c:wl.heap[b]?=wl.heap[b]:=Z5 f;obtain⟨cs,e,fz,g,_⟩:=h.cells _ _ c;rw[g]at c;obtain⟨_,_,j⟩:=h.own _ _ _ _ c d;exact(Zq.1 j).1
def WR.new(h:WR good σ s0 Keep M wl v){cs:Array Aq}{e:E1}(u:∀c,c∈cs->Nv good c)(hσ:σ wl=v):
 WR good σ s0 Keep (λb=>M b\/b=(v:Nat)) {wl with heap:=wl.heap.push (.cells cs e)} {v with heap:=v.heap.push (.cells cs e)}:=by
 refine⟨?_,?_,?_,h.ids,?_,?_,?_,?_⟩
 .intro b o d;rcases gK d with⟨_,rfl⟩|⟨_,d⟩
  .exact⟨cs,e,(0,0),rfl,u⟩
  exact h.cells b o d
 .intro b m y fz d n p;rcases gK d with⟨rfl,_⟩|⟨_,d⟩
  .exact absurd h.base oM
  obtain⟨j,l,q,k⟩:=h.old _ _ _ _ d n p;exact⟨j,l,q,l5 k⟩
 .intro b m y fz d r;rcases gK d with⟨rfl,s⟩|⟨_,d⟩
  .cases s;exact⟨rfl,.inr hσ,by rw[hσ];exact aej⟩
  obtain⟨j,l,k⟩:=h.own _ _ _ _ d r;exact⟨j,.inl l,l5 k⟩
 .intro b t j l k z A;simp only[abe]at l z;rcases aa8 b wl with f|f<;>rcases aa8 t wl with g|g
  .exact h.inj b t j f k g A
  .have:t=wl:=oM;subst this;have:=h.ownAt j f;omega
  .have:b=(wl:Nat):=oM;subst this;have:=h.ownAt k g;omega
  omega
 .simp only[abe];exact Nat.le_succ_of_le h.base
 .intro b f;simp only[abe];rcases f with f|f
  .exact aed (h.mb b f)
  omega
 intro b f;have:=h.kb b f;simp only[abe];exact⟨aed this.1,λB=>B.elim this.2 oM⟩
def WR.draw(h:WR good σ s0 Keep M wl v)(d c:Nat):WR good σ s0 Keep M {wl with drawn:=d} {v with drawn:=c}:=
 ⟨h.cells,h.old,h.own,h.ids,h.inj,h.base,h.mb,h.kb⟩
def pI{α:Type}(P:E2)(good:Nat->Bool)(σ:Nat->Nat)(s0:Nat)(Keep M:Nat->Prop)(Q:α->α->Prop)(wl v:AK)(f:Array Nc)(x y:Result α×Array Nc):Prop:=
 (∃h w,x.1=.halt h w/\ot h)\/
 (∃a a' d v' c,x.1=.ok a d/\y=(.ok a' v',c)/\Q a a'/\Ran good σ s0 Keep M wl v d v'/\∀e,e∈c->e∈f\/ov (bP M v v') Keep e)\/
 (∃p d v' c,x.1=.halt (.panic p) d/\y=(.halt (.panic p) v',c)/\Ran good σ s0 Keep M wl v d v'/\∀e,e∈c->e∈f\/ov (bP M v v') Keep e)
def ov.mono{e:Nc}(h:ov M Keep e)(c:∀b,M b->M' b):ov M' Keep e:=by
 exact h.imp id λ⟨a,h1,h2,h3⟩=>⟨a,h1,h2,h3.imp (c _) id⟩
def pI.step{Q:α->α->Prop}{M₁:Nat->Prop}{wl₁ v₁:AK}{es' es₁:Array Nc}{x y:Result α×Array Nc}(h:pI P good σ s0 Keep M₁ Q wl₁ v₁ es₁ x y)
 (o:∀b,M₁ b->M b\/((v:Nat)<=b/\b<(v₁:Nat)))(k:Does M v v₁)(E:wl₁.tape=wl.tape)(F:wl₁.drawn=wl.drawn+(v₁.drawn-v.drawn))(G:(wl₁:Nat)=(wl:Nat)+((v₁:Nat)-(v:Nat)))
 (s:∀b,M b->b<(v:Nat))(t:∀b,Keep b->b<(v:Nat)/\¬M b)(u:∀e,e∈es₁->e∈es'\/ov (bP M v v₁) Keep e):pI P good σ s0 Keep M Q wl v es' x y:=by
 have l:∀{f v'},Ran good σ s0 Keep M₁ wl₁ v₁ f v'->Ran good σ s0 Keep M wl v f v':=by
  intro f v' r;have g:=r.does.size;have j:=k.size;refine⟨r.wr.mono ?_ ?_ ?_,⟨r.does.tape.trans k.tape,r.does.os.trans k.os,r.does.out.trans k.out,Zz j g,Zz k.drawn r.does.drawn,λb c z=>?_⟩,r.ltape.trans E,?_,?_⟩
  .rintro b (c|c)
   .rcases o b c with c|c
    .exact .inl c
    exact .inr ⟨c.1,ZB c.2 g⟩
   exact .inr ⟨Zz j c.1,c.2⟩
  .rintro b (c|c)
   .exact ZB (s b c) (Zz j g)
   exact c.2
  .intro b c;have:=t b c;rintro(n|n)
   .exact this.2 n
   omega
  .rw[r.does.rest b (λn=>(o b n).elim c oM) oM];exact k.rest b c z
  .have:=r.ldrawn;have:=k.drawn;have:=r.does.drawn;omega
  have:=r.lsize;omega
 have m:∀{v':AK}{d:Array Nc},(v₁:Nat)<=(v':Nat)->(∀e,e∈d->e∈es₁\/ov (bP M₁ v₁ v') Keep e)->∀e,e∈d->e∈es'\/ov (bP M v v') Keep e:=by
  intro v' d g A e H;have j:=k.size;rcases A e H with B|B
  .rcases u e B with C|C
   .exact .inl C
   refine .inr (C.mono ?_);rintro b (c|c)
   .exact .inl c
   exact .inr ⟨c.1,ZB c.2 g⟩
  refine .inr (B.mono ?_);rintro b (c|c)
  .rcases o b c with c|c
   .exact .inl c
   exact .inr ⟨c.1,ZB c.2 g⟩
  exact .inr ⟨Zz j c.1,c.2⟩
 rcases h with h|⟨a,a',f,v',d,e1,e2,q,r,D⟩|⟨p,f,v',d,e1,e2,r,D⟩
 .exact .inl h
 .exact .inr (.inl ⟨a,a',f,v',d,e1,e2,q,l r,m r.does.size D⟩)
 exact .inr (.inr ⟨p,f,v',d,e1,e2,l r,m r.does.size D⟩)
def SEq.run{Q:α->α->Prop}{s s':Sem α}(h:SEq P good σ Q s s'):∀(M:Nat->Prop)(wl v:AK)(es c:Array Nc),WR good σ s0 Keep M wl v->
 (∀j q,v.drawn+j<(dt (s'.runT P v c).1).drawn->wl.tape (wl.drawn+j) q=v.tape (v.drawn+j) q)->
 (∀j,(v:Nat)+j<((dt (s'.runT P v c).1):Nat)->σ ((wl:Nat)+j)=(v:Nat)+j)->
 pI P good σ s0 Keep M Q wl v c (s.runT P wl es) (s'.runT P v c):=by
 have r:∀{M:Nat->Prop}{wl v:AK},WR good σ s0 Keep M wl v->Ran good σ s0 Keep M wl v wl v:=λd=>
  ⟨d.mono (λ_ h=>.inl h) (λb m=>m.elim (d.mb b) λh=>oM) (λb m n=>n.elim (d.kb b m).2 oM),.refl _ _,rfl,oM,oM⟩
 induction h with
 |pure q=>exact λM wl v es c d _ _=>.inr (.inl ⟨_,_,wl,v,c,rfl,rfl,q,r d,λe f=>.inl f⟩)
 |panic=>exact λM wl v es c d _ _=>.inr (.inr ⟨_,wl,v,c,rfl,rfl,r d,λe f=>.inl f⟩)
 |halt S=>exact λM wl v es c d _ _=>.inl ⟨_,wl,rfl,S⟩
 |load C o=>
  rename_i a k k';intro M wl v es c d g l;cases n:wl a with
  |none=>
   obtain⟨t,G⟩:=d.noFar (P:=P) (b:=Mode.plain==.atomic) n;exact .inl ⟨.stuck t,wl,by simp only[Sem.runT,n,G],.inl ⟨_,rfl⟩⟩
  |some x=>
   obtain⟨H,D,T⟩:=d.load n;(have e1:(Sem.load .plain a k).runT P wl es=(k x).runT P wl (es.push ⟨.cell a,false,false⟩):=by simp only[Sem.runT,n];rfl);(have e2:(Sem.load .plain (eF σ a) k').runT P v c=(k' x).runT P v (c.push ⟨.cell (eF σ a),false,false⟩):=by simp only[Sem.runT,H];rfl);rw[e1,e2];rw[e2]at g l;refine(o x D M wl v _ _ d g l).step (λb m=>.inl m) (.refl _ _) rfl oM oM d.mb d.kb λe f=>?_;rcases aa2.1 f with f|rfl
   .exact .inl f
   exact .inr (.inr ⟨_,rfl,rfl,T.imp .inl λh=>⟨rfl,h⟩⟩)
 |store D C o=>
  rename_i a x k k';intro M wl v es c d g l;by_cases A:(∃cs,x=.agg cs)\/∃U,x=.tuple U
  .rcases A with⟨cs,rfl⟩|⟨cs,rfl⟩<;>exact .inl ⟨_,wl,rfl,.inl ⟨_,rfl⟩⟩
  have u:∀(k:Sem α)(w:AK)(a:Es)(es:Array Nc),(Sem.store .plain a x k).runT P w es=match w a with
   |some _=>
    if w.frozen? a then(.halt (.unsupported (.unsafePointer "a write to bytes that a string shares")) w,es)
    else k.runT P (w.setCell a x) (es.push ⟨.cell a,true,false⟩)
   |none=>match w.farStore P a x false with
    |.ok (w,p)=>k.runT P w (es++p.toArray.map (⟨.cell ·,true,false⟩))
    |.error h=>(.halt h w,es):=by
   intro k w a es;cases x<;>first|rfl|exact absurd (.inl ⟨_,rfl⟩) A|exact absurd (.inr ⟨_,rfl⟩) A
  cases n:wl a with
  |none=>
   obtain⟨t,G⟩:=d.noFarS (P:=P) (x:=x) (b:=false) n;exact .inl ⟨.stuck t,wl,by rw[u,n];simp only[G],.inl ⟨_,rfl⟩⟩
  |some y=>
   cases B:wl.frozen? a with
   |true=>exact .inl ⟨.unsupported (.unsafePointer "a write to bytes that a string shares"),wl,by rw[u,n];simp only[B,aba],.inr ⟨_,rfl,sM⟩⟩
   |false=>
    obtain⟨H,_,_⟩:=d.load n;obtain⟨I,O,J⟩:=d.set (x:=x) n B D;(have e1:(Sem.store .plain a x k).runT P wl es=k.runT P (wl.setCell a x) (es.push ⟨.cell a,true,false⟩):=by rw[u,n];simp only[B];rfl);(have e2:(Sem.store .plain (eF σ a) x k').runT P v c=k'.runT P (v.setCell (eF σ a) x) (c.push ⟨.cell (eF σ a),true,false⟩):=by rw[u,H];simp only[I];rfl);rw[e1,e2];rw[e2]at g l;(have z:∀(w:AK)(a:Es),((w.setCell a x):Nat)=(w:Nat):=by intro w a;simp[World.setCell]);refine(o M (wl.setCell a x) (v.setCell (eF σ a) x) _ _ J g (by rw[z,z];exact l)).step (λb m=>.inl m) ⟨rfl,rfl,rfl,by rw[z];exact Zo _,Zo _,λb m K=>?_⟩ rfl (show wl.drawn=wl.drawn+(v.drawn-v.drawn) by omega) (by rw[z,z];omega) d.mb d.kb λe f=>?_
    .rw[bj,Zr];intro L;exact m (L▸O)
    rcases aa2.1 f with f|rfl
    .exact .inl f
    exact .inr (.inr ⟨_,rfl,rfl,.inl (.inl O)⟩)
 |new D C o=>
  rename_i cs e k k';intro M wl v es c d g l;have e2:(Sem.new (.cells cs e) k').runT P v c=(k' (v:Nat)).runT P {v with heap:=v.heap.push (.cells cs e)} c:=rfl;have e1:(Sem.new (.cells cs e) k).runT P wl es=(k (wl:Nat)).runT P {wl with heap:=wl.heap.push (.cells cs e)} es:=rfl;have hσ:σ (wl:Nat)=(v:Nat):=by
   have:=l 0 (by
    rw[e2];have:=(oL P (k' (v:Nat)) {v with heap:=v.heap.push (.cells cs e)} c).2;simp only[abe]at this;omega)
   simpa using this
  rw[e1,e2];rw[e2]at g l;have E:=o (wl:Nat);rw[hσ]at E;refine(E _ {wl with heap:=wl.heap.push (.cells cs e)} {v with heap:=v.heap.push (.cells cs e)} es c (d.new D hσ) g ?_).step ?_ ⟨rfl,rfl,rfl,sM,Zo _,λb _ K=>?_⟩ rfl (show wl.drawn=wl.drawn+(v.drawn-v.drawn) by omega) (by simp only[abe];omega) d.mb d.kb λe f=>.inl f
  .intro j N;simp only[abe]at N⊢;have:=l (j+1) oM;rw[show (wl:Nat)+1+j=(wl:Nat)+(j+1) by omega,show (v:Nat)+1+j=(v:Nat)+(j+1) by omega];exact this
  .rintro b (m|m)
   .exact .inl m
   exact .inr (by simp only[abe];omega)
  show(v.heap.push _)[b]?=_;rw[aa6,Zr oM]
 |choose C o=>
  rename_i q k k';intro M wl v es c d g l;cases R:q.forced with
  |true=>
   (have e:∀(k:Nat->Sem α)(w:AK)(es:Array Nc),(Sem.choose q k).runT P w es=(k 0).runT P w es:=by intro k w es;simp only[Sem.runT,R,aba]);rw[e,e];rw[e]at g l;exact o 0 M wl v es c d g l
  |false=>
   (have e:∀(k:Nat->Sem α)(w:AK)(es:Array Nc),(Sem.choose q k).runT P w es=(k (q.cut (w.tape w.drawn q))).runT P {w with drawn:=w.drawn+1} es:=by intro k w es;simp only[Sem.runT,R];rfl);rw[e,e];rw[e]at g l;have F:wl.tape wl.drawn q=v.tape v.drawn q:=by
    have:=g 0 q (by
     have:=(oL P (k' (q.cut (v.tape v.drawn q))) {v with drawn:=v.drawn+1} c).1;simp only at this;omega)
    simpa using this
   rw[F];refine(o (q.cut (v.tape v.drawn q)) M {wl with drawn:=wl.drawn+1} {v with drawn:=v.drawn+1} es c (d.draw _ _) ?_ l).step (λb m=>.inl m) ⟨rfl,rfl,rfl,Zo _,ade _,λ_ _ _=>rfl⟩ rfl (show wl.drawn+1=wl.drawn+(v.drawn+1-v.drawn) by omega) sM d.mb d.kb λe f=>.inl f;intro j V N;have:=g (j+1) V (by simp only at N;omega);simp only;rw[show wl.drawn+1+j=wl.drawn+(j+1) by omega,show v.drawn+1+j=v.drawn+(j+1) by omega];exact this
 |program C o=>exact λM wl v es c d g l=>o M wl v es c d g l
 |mark C o=>
  intro M wl v es c d g l;refine(o M wl v _ _ d g l).step (λb m=>.inl m) (.refl _ _) rfl oM oM d.mb d.kb λe f=>?_;rcases aa2.1 f with f|rfl
  .exact .inl f
  exact .inr (.inl ⟨_,rfl⟩)
end
end
section
open Go.Conc
variable{args:Array Aq}{f:Nat}{t u:E1}{v x y:Aq}{γ:Type}
section
variable{P:E2}{good:Nat->Bool}{σ:Nat->Nat}{α β:Type}
def SEq.bindM{Q:α->α->Prop}{Q':β->β->Prop}{s s':Sem α}{f f':α->Sem β}(h:SEq P good σ Q s s')(k:∀a a',Q a a'->SEq P good σ Q' (f a) (f' a')):SEq P good σ Q' (s>>=f) (s'>>=f'):=h.bind k
def aev:=@SEq.bindM
abbrev Dry(P:E2)(good:Nat->Bool)(σ:Nat->Nat){α:Type}(Pst:α->Prop)(s:Sem α):Prop:=SEq P good σ (λa a'=>a'=a/\Pst a) s s
def Dry.bind{Pst:α->Prop}{Q':β->β->Prop}{s:Sem α}{f f':α->Sem β}(h:Dry P good σ Pst s)(k:∀a,Pst a->SEq P good σ Q' (f a) (f' a)):SEq P good σ Q' (s>>=f) (s>>=f'):=
 aev h λa a' h=>by obtain⟨rfl,b⟩:=h;exact k _ b
def aex:=@Dry.bind
def Dry.weak{Pst b:α->Prop}{s:Sem α}(h:Dry P good σ Pst s)(k:∀a,Pst a->b a):Dry P good σ b s:=SEq.mono h λa a' h=>⟨h.1,k a h.2⟩
def po(t:E1):Dry P good σ (λi=>P.info? t=some i) (typeInfo t):=by
 refine SEq.program ?_;show Dry P good σ (λi=>P.info? t=some i) (match P.info? t with|some i=>Pure.pure i|none=>stuck "no such type");cases h:P.info? t with
 |none=>exact aep
 |some i=>refine SEq.pure ?_;exact⟨rfl,rfl⟩
def aZ(t:E1):Dry P good σ (λd=>P.underlying t=some d) (underlying t):=by
 refine SEq.program ?_;show Dry P good σ (λi=>P.underlying t=some i) (match P.underlying t with|some i=>Pure.pure i|none=>stuck "no such type");cases h:P.underlying t with
 |none=>exact aep
 |some i=>refine SEq.pure ?_;exact⟨rfl,rfl⟩
def cX(t:E1):Dry P good σ (λn=>∃i,P.info? t=some i/\n=i.size) (sizeOf t):=(po t).bind λi a=>SEq.pure ⟨rfl,i,a,rfl⟩
def wD(t:E1):Dry P good σ (λ_=>True) (isAgg t):=(aZ t).bind λd _=>by
 cases d<;>exact SEq.pure ⟨rfl,trivial⟩
def EP(P:E2)(good:Nat->Bool)(t:E1):Prop:=∀i v,P.info? t=some i->i.zero=some v->Nv good v
def AG(a:EP P good t):Dry P good σ (Nv good) (zeroValue t):=(po t).bind λi b=>by
 cases h:i.zero with
 |none=>exact aeq sM
 |some v=>exact SEq.pure ⟨rfl,a i v b h⟩
def lW(h:Nv good v):∀c,c∈v.cells->Nv good c:=by
 cases h with
 |agg cs a=>exact a
 |_=>intro c a;simp only[Value.cells,aaX,aag]at a;subst a;constructor<;>assumption
def zd(a:Es):SEq P good σ (λv v'=>v'=v/\Nv good v) (Go.load a) (Go.load (eF σ a)):=.load λ_ b=>SEq.pure ⟨rfl,b⟩
def nI(a:Es):∀(n i:Nat)(b:Array Aq),(∀c,c∈b->Nv good c)->SEq P good σ (λv v'=>v'=v/\∀c,c∈v->Nv good c) (loadCellsFrom a i n b) (loadCellsFrom (eF σ a) i n b)
 |0,i,b,h=>SEq.pure ⟨rfl,h⟩
 |n+1,i,b,h=>by
  show SEq P good σ _ (Go.load (a.add i)>>=_) (Go.load ((eF σ a).add i)>>=_);rw[<-lQ];refine aev (zd _) λv v' e=>?_;rw[e.1];refine nI a n (i+1) _ λc d=>?_;rcases aa2.1 d with d|rfl
  .exact h c d
  exact e.2
def lL(a:Es):∀(b:List Aq)(i:Nat),(∀c,c∈b->Nv good c)->SEq P good σ (λ_ _=>True) (storeCells a b i) (storeCells (eF σ a) b i)
 |[],i,h=>.pure trivial
 |v::b,i,h=>by
  show SEq P good σ _ (Go.store (a.add i) v>>=_) (Go.store ((eF σ a).add i) v>>=_);rw[<-lQ];exact aev (Q:=λ_ _=>True) (.store (h v sM) (.pure trivial)) λ_ _ _=>lL a b (i+1) λc d=>h c (by simp[d])
def qR(t:E1)(a:Es):SEq P good σ (λv v'=>v'=v/\Nv good v) (loadVar t a) (loadVar t (eF σ a)):=(wD t).bind λb _=>by
 cases b with
 |true=>
  refine(cX t).bind λn _=>?_;exact aev (nI a n 0 #[] sM) λv v' c=>SEq.pure ⟨by rw[c.1],.agg _ c.2⟩
 |false=>exact zd a
def xm(t:E1)(a:Es)(h:Nv good v):SEq P good σ (λ_ _=>True) (storeVar t a v) (storeVar t (eF σ a) v):=(cX t).bind λn _=>by
 dsimp only;split
 .exact aep
 exact lL a _ 0 λc b=>lW h c (aaC.1 b)
def sV(t:E1)(h:Nv good v):SEq P good σ (λa a'=>a'=eF σ a) (newVar t v) (newVar t v):=
 .new (lW h) λr=>.pure rfl
def jD(h:Nv good v):Dry P good σ (λ_=>True) (asIntOf v):=by
 cases h<;>first|exact SEq.pure ⟨rfl,trivial⟩|exact aep
def qx(h:Nv good v):Dry P good σ (λ_=>True) (asInt v):=(jD h).bind λ_ _=>SEq.pure ⟨rfl,trivial⟩
def C8(h:Nv good v):Dry P good σ (λ_=>True) (asBool v):=by
 cases h<;>first|exact SEq.pure ⟨rfl,trivial⟩|exact aep
def fQ(v:Aq):SEq P good σ (λa a'=>a'=eF σ a) (Instr.sureAddr v) (Instr.sureAddr (ren σ v)):=by
 match v with
 |.pointer (some a)=>exact .pure rfl
 |.pointer none=>exact aep
 |.slice (some _) _ _=>exact aep
 |.slice none _ _=>exact aep
 |.bool _|.int _ _|.float _ _|.complex _ _ _|.string _|.map _|.chan _|.func _ _ _|.nilFunc|.iface _ _|.nilIface|.agg _|.tuple _=>exact aep
def jj{Pst:α->Prop}{e:RuntimeError}(h:(∃m,e=.error m)\/e=.nilDeref\/∃x y s c,e=.bounds x y s c):Dry P good σ Pst (runtimePanic e:Sem α):=by
 refine SEq.program ?_;rcases h with⟨m,rfl⟩|rfl|⟨x,y,s,c,rfl⟩<;>exact SEq.panic
def kU{Pst:α->Prop}(k:IntKind)(x y:Int)(c:BoundsCode):Dry P good σ Pst (boundsPanic k x y c:Sem α):=by
 unfold boundsPanic;dsimp only;have a:∀b,Dry P good σ Pst (runtimePanic (.bounds (IntKind.i64.wrap x) y b c):Sem α):=λb=>jj (.inr (.inr ⟨_,_,_,_,rfl⟩));split
 .exact SEq.choose λn=>a _
 exact a _
def l8(t:E1){cs:Array Aq}(h:∀c,c∈cs->Nv good c)(a:Nat):Dry P good σ (Nv good) (part t cs a):=(wD t).bind λb _=>by
 cases b with
 |true=>
  refine(cX t).bind λn _=>SEq.pure ⟨rfl,.agg _ λc e=>h c ?_⟩;obtain⟨i,d⟩:=aaF.1 e;rw[adr]at d;split at d
  .exact ZS d
  cases d
 |false=>
  show SEq P good σ _ (match cs[a]? with|some v=>Pure.pure v|none=>stuck "part: no such cell") _;cases e:cs[a]? with
  |none=>exact aep
  |some v=>exact SEq.pure ⟨rfl,h v (ZS e)⟩
def wE(l:List γ){f:γ->β->Sem (ForInStep β)}{Pst:β->Prop}(c:∀x,x∈l->∀b,Pst b->Dry P good σ (λs=>match s with|.yield b=>Pst b|.done b=>Pst b) (f x b)):∀b,Pst b->Dry P good σ Pst (forIn l b f):=by
 induction l with
 |nil=>intro b a;exact SEq.pure ⟨rfl,a⟩
 |cons x l e=>
  intro b a;rw[aeO];refine(c x sM b a).bind λs d=>?_;cases s with
  |done b=>exact SEq.pure ⟨rfl,d⟩
  |yield b=>exact e (λy g=>c y (by simp[g])) b d
def c9{Pst:α->Prop}{c:Prop}[Decidable c]{s t:Sem α}(a:Dry P good σ Pst s)(b:Dry P good σ Pst t):Dry P good σ Pst (if c then s else t):=by
 split
 .exact a
 exact b
def AH{Pst:α->Prop}{u:Unsupported}(h:∀b,u≠.initOrder b)(f:β->Sem α):Dry P good σ Pst (Go.unsupported u>>=f):=SEq.halt (.inr ⟨_,rfl,h⟩)
def tU(l:Array γ){f:γ->β->Sem (ForInStep β)}{Pst:β->Prop}(a:∀x b,Pst b->Dry P good σ (λs=>match s with|.yield b=>Pst b|.done b=>Pst b) (f x b))(b:β)(c:Pst b):Dry P good σ Pst (forIn l b f):=by
 rw[<-Array.forIn_toList];exact wE l.toList (λx _=>a x) b c
def tT(n:Nat){f:Nat->β->Sem (ForInStep β)}{Pst:β->Prop}(a:∀x b,Pst b->Dry P good σ (λs=>match s with|.yield b=>Pst b|.done b=>Pst b) (f x b))(b:β)(c:Pst b):Dry P good σ Pst (forIn [:n] b f):=by
 rw[ab0];exact wE _ (λx _=>a x) b c
def l9:∀(d:Nat)(t:E1)(x y:Aq),Nv good x->Nv good y->Dry P good σ (λ_=>True) (Op.equalIn d t x y)
 |0,t,x,y,_,_=>aeq sM
 |d+1,t,x,y,o,p=>by
  unfold Op.equalIn;refine(aZ t).bind λu _=>?_;have q:=l9 d;have one:∀(h:E1){cs ds:Array Aq}(_:∀c,c∈cs->Nv good c)(_:∀c,c∈ds->Nv good c)(m m':Nat),Dry P good σ (λ_=>True) (do
   let a<-part h cs m
   let b<-part h ds m'
   let r<-Op.equalIn d h a b
   if(!r) then pure (ForInStep.done (some false,()))else pure (ForInStep.yield ((none:Option Bool),()))):=λh cs ds j k m m'=>
   (l8 h j m).bind λa w=>(l8 h k m').bind λb z=>(q h a b w z).bind λr _=>c9 (SEq.pure ⟨rfl,trivial⟩) (SEq.pure ⟨rfl,trivial⟩)
  cases o<;>cases p<;>cases u<;>first
   |exact aep
   |exact SEq.pure ⟨rfl,trivial⟩
   |exact c9 (SEq.pure ⟨rfl,trivial⟩) aep
   |skip
  .rename_i cs j ds k l g _;refine(cX g).bind λn _=>(aex (Pst:=λ_=>True) (tT l (Pst:=λ_=>True) (λi b _=>?_) _ trivial) λr _=>by obtain⟨r,_⟩:=r;cases r<;>exact SEq.pure ⟨rfl,trivial⟩);exact(one g j k _ _).weak λs _=>by cases s<;>trivial
  rename_i cs j ds k e _;refine SEq.program (c9 (AH sM _) (aex (Pst:=λ_=>True) (tU e (Pst:=λ_=>True) (λf b _=>?_) _ trivial) λr _=>by obtain⟨r,_⟩:=r;cases r<;>exact SEq.pure ⟨rfl,trivial⟩));refine c9 ((one f.type j k _ _).weak λs _=>by cases s<;>trivial) (SEq.pure ⟨rfl,trivial⟩)
def nJ:∀(d:Nat)(t:E1)(x y:Aq),Nv good x->Nv good y->Dry P good σ (λ_=>True) (Op.eqGuardIn d t x y)
 |0,t,x,y,_,_=>aeq sM
 |d+1,t,x,y,o,p=>by
  unfold Op.eqGuardIn;refine(aZ t).bind λu _=>?_;have q:=nJ d;have one:∀(h:E1){cs ds:Array Aq}(_:∀c,c∈cs->Nv good c)(_:∀c,c∈ds->Nv good c)(m m':Nat),Dry P good σ (λ_=>True) (do
   let a<-part h cs m
   let b<-part h ds m'
   let r<-Op.eqGuardIn d h a b
   if r then pure (ForInStep.done (some true,()))else pure (ForInStep.yield ((none:Option Bool),()))):=λh cs ds j k m m'=>
   (l8 h j m).bind λa w=>(l8 h k m').bind λb z=>(q h a b w z).bind λr _=>c9 (SEq.pure ⟨rfl,trivial⟩) (SEq.pure ⟨rfl,trivial⟩)
  cases o<;>cases p<;>cases u<;>first
   |exact SEq.pure ⟨rfl,trivial⟩
   |skip
  .rename_i cs j ds k l g _;refine(cX g).bind λn _=>(aex (Pst:=λ_=>True) (tT l (Pst:=λ_=>True) (λi b _=>?_) _ trivial) λr _=>by obtain⟨r,_⟩:=r;cases r<;>exact SEq.pure ⟨rfl,trivial⟩);exact(one g j k _ _).weak λs _=>by cases s<;>trivial
  rename_i cs j ds k e _;refine(aex (Pst:=λ_=>True) (tU e (Pst:=λ_=>True) (λf b _=>?_) _ trivial) λr _=>by obtain⟨r,_⟩:=r;cases r<;>exact SEq.pure ⟨rfl,trivial⟩);refine c9 ((one f.type j k _ _).weak λs _=>by cases s<;>trivial) (SEq.pure ⟨rfl,trivial⟩)
def AJ(op:BinOp)(t:E1)(x y:Operand){a b:Aq}(c:Nv good a)(d:Nv good b):Dry P good σ (λ_=>True) (eqGuard op t x y a b):=by
 unfold eqGuard;refine c9 (SEq.pure ⟨rfl,trivial⟩) ?_;cases c<;>cases d<;>first|exact SEq.pure ⟨rfl,trivial⟩|skip
 rename_i cs e ds g;refine SEq.program (SEq.program (c9 (SEq.pure ⟨rfl,trivial⟩) ?_));exact(nJ _ t _ _ (.agg _ e) (.agg _ g)).bind λr _=>c9 (aeq sM) (SEq.pure ⟨rfl,trivial⟩)
def G1(op:BinOp)(t:E1)(c:Nv good x)(d:Nv good y):Dry P good σ (Nv good) (binOp op t x y):=by
 have bl:∀b,Nv good (.bool b):=.bool;have i:∀k n,Nv good (.int k n):=.int;have e1:∀x y,Nv good x->Nv good y->Dry P good σ (Nv good) (do pure (.bool (<-Op.equal t x y))):=λx y c d=>(l9 _ t x y c d).bind λr _=>SEq.pure ⟨rfl,.bool _⟩;have e2:∀x y,Nv good x->Nv good y->Dry P good σ (Nv good) (do pure (.bool (!(<-Op.equal t x y)))):=λx y c d=>(l9 _ t x y c d).bind λr _=>SEq.pure ⟨rfl,.bool _⟩;have st:∀op a b,Dry P good σ (Nv good) (Op.stringOp op a b):=λop a b=>by
  unfold Op.stringOp;cases op<;>first|exact SEq.pure ⟨rfl,.bool _⟩|exact aep|exact c9 (aeq sM) (SEq.pure ⟨rfl,.string _⟩)
 have g:∀op k a e b,Dry P good σ (Nv good) (Op.shift op k a e b):=λop k a e b=>by
  unfold Op.shift;refine c9 (jj (.inl ⟨_,rfl⟩)) ?_;cases op<;>first|exact SEq.pure ⟨rfl,.int _ _⟩|exact aep
 have h:∀op k a b,Dry P good σ (Nv good) (Op.intDiv op k a b):=λop k a b=>by
  unfold Op.intDiv;refine c9 (jj (.inl ⟨_,rfl⟩)) ?_;cases op<;>first|exact SEq.pure ⟨rfl,.int _ _⟩|exact aep
 cases c<;>cases d<;>cases op<;>(unfold binOp;dsimp only)<;>first
  |exact aep
  |exact e1 _ _ (by constructor<;>assumption) (by constructor<;>assumption)
  |exact e2 _ _ (by constructor<;>assumption) (by constructor<;>assumption)
  |exact st _ _ _
  |exact g _ _ _ _ _
  |exact c9 aep (SEq.pure ⟨rfl,.int _ _⟩)
  |exact c9 aep (SEq.pure ⟨rfl,.bool _⟩)
  |exact c9 aep (h _ _ _ _)
def GY(op:UnOp)(a:Nv good x):Dry P good σ (Nv good) (Op.unary op x):=by
 cases a<;>cases op<;>first|exact aep|exact SEq.pure ⟨rfl,.int _ _⟩|exact SEq.pure ⟨rfl,.bool _⟩
def AL{src a:E1}{k e:IntKind}(g:P.underlying src=some (.int e))(h:P.underlying a=some (.int k))(i:Nv good x):Dry P good σ (Nv good) (convert src a x):=by
 unfold convert;refine(aZ src).bind λu c=>(aZ a).bind λd b=>?_;rw[h]at b;rw[g]at c;obtain rfl:=ZO b;obtain rfl:=ZO c;cases i<;>first|exact SEq.pure ⟨rfl,.int _ _⟩|exact aeq sM
def GZ(t:E1){i:Aq}(c:Nv good x)(d:Nv good i):Dry P good σ (Nv good) (Instr.index t x i):=by
 unfold Instr.index;refine(jD d).bind λr _=>?_;obtain⟨k,i⟩:=r;dsimp only;refine(aZ t).bind λu _=>?_;cases c<;>cases u<;>first|exact aep|skip
 .rename_i s _;dsimp only;generalize(if 0<=i then s[i.toNat]? else none)=r;cases r with
  |none=>exact kU _ _ _ _
  |some b=>exact SEq.pure ⟨rfl,.int _ _⟩
 rename_i cs e g a _;exact c9 ((cX a).bind λn _=>l8 _ e _) (kU _ _ _ _)
def AI(a:Nv good x)(i:Nat):Dry P good σ (Nv good) (Instr.extract x i):=by
 unfold Instr.extract;cases a with
 |tuple b h=>
  dsimp only;cases c:b[i]? with
  |none=>exact aep
  |some v=>exact SEq.pure ⟨rfl,h v (ZS c)⟩
 |_=>exact aep
def xT(a:Nat->Option (Nat×Nat)):∀(l:List (Nat×Aq))(cells cs:Array Aq),(∀c,c∈cells->Nv good c)->(∀p,p∈l->Nv good p.2)->Instr.fill a cells l=cs->∀c,c∈cs->Nv good c
 |[],cells,cs,e,_,h=>by
  simp only[Instr.fill,Zt]at h;subst h;exact e
 |(i,v)::g,cells,cs,e,q,h=>by
  unfold Instr.fill at h;split at h
  .cases h
  rename_i k size _;split at h
  .cases h
  refine xT a g _ cs ?_ (λp m=>q p (by simp[m])) h;have w:=lW (q (i,v) sM);have n:∀(l:List (Aq×Nat))(cs:Array Aq),(∀c,c∈cs->Nv good c)->(∀x,x∈l->Nv good x.1)->∀c,c∈l.foldl (λcs(x:Aq×Nat)=>cs.setIfInBounds (k+x.2) x.1) cs->Nv good c:=by
   intro l;induction l with
   |nil=>intro cs e _ c h;exact e c h
   |cons x l z=>
    intro cs e r c h;refine z _ (λd A=>?_) (λy B=>r y (by simp[B])) c h;obtain⟨j,b⟩:=aaF.1 A;rcases gi b with⟨_,rfl⟩|b
    .exact r x sM
    exact e d (ZS b)
  rw[<-adb];refine n _ _ e λx s=>w x.1 ?_;rw[aaC]at s;obtain⟨j,b⟩:=aaF.1 s;rw[Array.getElem?_zipIdx]at b;cases o:v.cells[j]? with
  |none=>rw[o]at b;cases b
  |some y=>rw[o]at b;cases b;exact ZS o
def Kl{δ:Type}{f:γ->Sem δ}(c:∀x,Dry P good σ (λ_=>True) (f x))(b:Array γ):Dry P good σ (λ_=>True) (b.mapM f):=by
 rw[acT,<-ac0];generalize b.toList=l;generalize(#[]:Array δ)=a;induction l generalizing a with
 |nil=>exact SEq.pure ⟨rfl,trivial⟩
 |cons x l d=>exact(aex (Pst:=λ_=>True) ((c x).bind λy _=>SEq.pure ⟨rfl,trivial⟩) λa _=>d a)
def G0(d:EP P good t){ps:Array (Nat×Aq)}(i:∀p,p∈ps->Nv good p.2):Dry P good σ (Nv good) (Instr.build t ps):=by
 unfold Instr.build;refine(AG d).bind λz d=>(aZ t).bind λu _=>?_;have b:∀p,p∈ps.toList->Nv good p.2:=λp h=>i p (aaC.1 h);cases u<;>first|exact aep|skip
 .rename_i j c _;refine(cX c).bind λn _=>?_;generalize g:Instr.fill _ z.cells ps.toList=r;cases r with
  |none=>exact aep
  |some cs=>exact SEq.pure ⟨rfl,.agg _ (xT _ _ _ _ (lW d) b g)⟩
 rename_i a _;refine aex (Pst:=λ_=>True) (Kl (λf=>(cX f.type).bind λn _=>SEq.pure ⟨rfl,trivial⟩) a) λe _=>?_;generalize g:Instr.fill _ z.cells ps.toList=r;cases r with
 |none=>exact aep
 |some cs=>exact SEq.pure ⟨rfl,.agg _ (xT _ _ _ _ (lW d) b g)⟩
def zf{s:Nat}{g:Array Field}{c:Field}{i:TypeInfo}(k:P.underlying s=some (.struct g))(l:g[f]?=c)(m:P.info? c.type=i)(h:i.size≠0)(v:Aq):SEq P good σ (λa a'=>a'=ren σ a) (Instr.fieldAt s v f) (Instr.fieldAt s (ren σ v) f):=by
 unfold Instr.fieldAt;refine(aZ s).bind λu j=>?_;rw[k]at j;obtain rfl:=ZO j;simp only[l];refine aev (fQ v) λa a' d=>?_;rw[d];refine aev (Q:=λa a'=>a'=eF σ a) ?_ λa a' d=>SEq.pure (by rw[d];rfl);unfold fieldPlace;refine(cX c.type).bind λn e=>?_;obtain⟨o,b,rfl⟩:=e;rw[m]at b;obtain rfl:=ZO b;rw[Zr h,Zr h];exact SEq.pure (lQ σ a _).symm
def FX(σ:Nat->Nat)(a:Option Es)(l c:Nat):ren σ (.slice a l c)=.slice (a.map (eF σ)) l c:=by cases a<;>rfl
def yZ{Q:α->α->Prop}{m:String}{s':Sem α}:SEq P good σ Q (Go.unsupported (.noEntry m)) s':=aeq sM
def ze(t:E1)(x:Aq){l:Aq}(p:Nv good l):SEq P good σ (λa a'=>a'=ren σ a) (Instr.indexAt t x l) (Instr.indexAt t (ren σ x) l):=by
 have e:∀(base:Option Es)(d:Nat)(b:E1)(k:IntKind)(i:Int),SEq P good σ (λa a'=>a'=ren σ a)
  (do
   let u<-underlying t
   match base with
   |some a=>
    if 0<=i/\i<d then pure (.pointer (a.add (i.toNat*(<-sizeOf b))))
    else if(d<=1&&(match u with|.array ..=>true|_=>false)) then unsupported (.noEntry "op/indexAddr.an index out of range at an array of length 0 or 1 (ledger 616)")
    else boundsPanic k i d .index
   |none=>boundsPanic k i 0 .index)
  (do
   let u<-underlying t
   match base.map (eF σ)with
   |some a=>
    if 0<=i/\i<d then pure (.pointer (a.add (i.toNat*(<-sizeOf b))))
    else if(d<=1&&(match u with|.array ..=>true|_=>false)) then unsupported (.noEntry "op/indexAddr.an index out of range at an array of length 0 or 1 (ledger 616)")
    else boundsPanic k i d .index
   |none=>boundsPanic k i 0 .index):=by
  intro base d b k i;refine(aZ t).bind λu m=>?_;clear m;have o:∀n,SEq P good σ (λa a'=>a'=ren σ a) (boundsPanic k i n .index) (boundsPanic k i n .index):=λn=>(kU (Pst:=λ_=>False) k i n .index).mono λ_ _ h=>h.2.elim;cases base with
  |none=>exact o 0
  |some a=>
   dsimp only[Option.map];by_cases j:0<=i/\i<d
   .rw[ZC j,ZC j];exact(cX b).bind λn _=>SEq.pure (by rw[<-lQ];rfl)
   rw[Zr j,Zr j];by_cases g:(decide (d<=1)&&(match u with|.array ..=>true|_=>false))
   .rw[ZC g];exact yZ
   rw[Zr g];exact o d
 unfold Instr.indexAt;refine(jD p).bind λr _=>?_;obtain⟨k,i⟩:=r;dsimp only;refine(aZ t).bind λu s=>?_
 match u,x with
 |.array d b,x=>
  refine aev (fQ x) λa a' q=>?_;rw[q];exact e a d b k i
 |.slice b,.slice base d c=>
  rw[FX];exact e base d b k i
 |.slice b,.pointer none=>exact aep
 |.slice b,.pointer (some _)=>exact aep
 |.slice b,.bool _|.slice b,.int _ _|.slice b,.float _ _|.slice b,.complex _ _ _|.slice b,.string _|.slice b,.map _|.slice b,.chan _|.slice b,.func _ _ _|.slice b,.nilFunc|.slice b,.iface _ _|.slice b,.nilIface|.slice b,.agg _|.slice b,.tuple _=>exact aep
 |.invalid,x|.bool,x|.int _,x|.float _,x|.complex _,x|.string,x|.unsafePointer,x|.pointer _,x|.map _ _,x|.chan _ _,x|.func _ _ _,x|.struct _,x|.interface _,x|.named _ _,x|.tuple _,x=>exact aep
def jh(a:Nv good x)(y:Nat)(c:BoundsCode):Dry P good σ (λ_=>True) (Instr.sliceBound x y c):=by
 unfold Instr.sliceBound;refine(jD a).bind λr _=>?_;exact c9 (SEq.pure ⟨rfl,trivial⟩) (kU _ _ _ _)
def yX{b:E1}{n:Nat}(i:P.underlying t=some (.array n b))(x:Aq){c d:Option Aq}(e:∀v,c=some v->Nv good v)(j:∀v,d=some v->Nv good v):
 SEq P good σ (λa a'=>a'=ren σ a) (Instr.sliceAt t x c d none) (Instr.sliceAt t (ren σ x) c d none):=by
 unfold Instr.sliceAt;refine(aZ t).bind λu g=>?_;rw[i]at g;obtain rfl:=ZO g;dsimp only;refine aev (fQ x) λa a' k=>?_;rw[k];have o:Dry P good σ (λ_=>True) (Instr.sliceBounds false n n c d none):=by
  unfold Instr.sliceBounds;dsimp only;cases d with
  |none=>
   cases c with
   |none=>exact SEq.pure ⟨rfl,trivial⟩
   |some v=>exact(jh (e v rfl) _ _).bind λl _=>SEq.pure ⟨rfl,trivial⟩
  |some w=>
   refine(jh (j w rfl) _ _).bind λh _=>?_;cases c with
   |none=>exact SEq.pure ⟨rfl,trivial⟩
   |some v=>exact(jh (e v rfl) _ _).bind λl _=>SEq.pure ⟨rfl,trivial⟩
 refine aex o λr _=>?_;obtain⟨l,h,m⟩:=r;dsimp only;refine(cX b).bind λs _=>SEq.pure ?_;split
 .rfl
 rw[<-lQ];rfl
def Ng{ts:Array E1}(h:ts[0]?=some t)(b:(∃e,P.underlying t=some (.slice e))\/∃n e,P.underlying t=some (.array n e)):SEq P good σ (λa a'=>a'=a/\Nv good a) (Builtin.len_ ts u #[x]) (Builtin.len_ ts u #[ren σ x]):=by
 unfold Builtin.len_;simp only[h,ZT,ZE];refine(aZ t).bind λd g=>?_;rcases b with⟨e,b⟩|⟨n,e,b⟩<;>(rw[b]at g;obtain rfl:=ZO g)
 .match x with
  |.slice (some a) l c=>exact SEq.pure ⟨rfl,.int _ _⟩
  |.slice none l c=>exact SEq.pure ⟨rfl,.int _ _⟩
  |.pointer (some _)|.pointer none|.bool _|.int _ _|.float _ _|.complex _ _ _|.string _|.map _|.chan _|.func _ _ _|.nilFunc|.iface _ _|.nilIface|.agg _|.tuple _=>exact aep
 exact SEq.pure ⟨rfl,.int _ _⟩
def Kk(a:Nv good x)(b:Nv good y):Dry P good σ (Nv good) (Builtin.max2 x y):=by
 cases a<;>cases b<;>(unfold Builtin.max2;dsimp only)<;>first|exact aep|exact SEq.pure ⟨rfl,.int _ _⟩|skip
 unfold Op.stringOp;exact SEq.pure ⟨rfl,.string _⟩
def Nf{ts:Array E1}(h:∀v,v∈args->Nv good v):Dry P good σ (Nv good) (Builtin.max_ ts u args):=by
 unfold Builtin.max_;have b:∀v,v∈args.toList->Nv good v:=λv a=>h v (aaC.1 a);generalize args.toList=l at b;cases l with
 |nil=>exact aep
 |cons x l=>
  dsimp only;have c:=b x sM;have d:∀v,v∈l->Nv good v:=λv a=>b v (by simp[a]);clear b;induction l generalizing x with
  |nil=>exact SEq.pure ⟨rfl,c⟩
  |cons y l e=>
   rw[acX];exact(Kk c (d y sM)).bind λz g=>e z g λv a=>d v (by simp[a])
end
def zO:Aq->Bool
 |.bool _|.int _ _|.string _|.nilFunc=>true
 |_=>false
def nvc(d:Nat->Bool):Aq->Bool
 |.bool _|.int _ _|.string _|.nilFunc=>true
 |.func (.func f) a b=>d f&&a.isEmpty&&b.isEmpty
 |.agg cs=>cs.all λc=>match c with|.func (.func f) a b=>d f&&a.isEmpty&&b.isEmpty|c=>zO c
 |.tuple e=>e.isEmpty
 |_=>false
def mS{d:Nat->Bool}(h:nvc d v):Nv d v:=by
 have fn:∀{f:Nat}{a b:Array Aq},(d f&&a.isEmpty&&b.isEmpty)->Nv d (.func (.func f) a b):=by
  intro f a b h;simp only[aab,adq]at h;obtain⟨⟨e,rfl⟩,rfl⟩:=h;exact .func f e
 unfold nvc at h;split at h<;>first|constructor;done|skip
 .exact fn h
 .refine .agg _ λc g=>?_;have:=ZY.1 h c g;split at this
  .exact fn this
  unfold zO at this;split at this<;>first|constructor;done|cases this
 .rw[adq]at h;subst h;exact .tuple _ sM
 cases h
section
variable(P:E2)(good gl:Nat->Bool)(isP:Nat->Bool)
def opN:Operand->Bool
 |.tmp t=>!isP t
 |.const v=>nvc good v
 |.global _=>false
 |.func f=>good f
def opA:Operand->Bool
 |.tmp _=>true
 |.const v=>nvc good v
 |.global g=>gl g
 |.func f=>good f
def rF(t:E1):Bool:=match P.info? t with
 |some i=>match i.zero with
  |some v=>nvc good v
  |none=>true
 |none=>true
def isInt(t:E1):Bool:=match P.underlying t with
 |some (.int _)=>true
 |_=>false
def Oy(t:E1):Bool:=match P.underlying t with
 |some (.array _ _)=>true
 |_=>false
def rR(s f:Nat):Bool:=match P.underlying s with
 |some (.struct a)=>match a[f]? with
  |some b=>match P.info? b.type with
   |some i=>i.size !=0
   |none=>false
  |none=>false
 |_=>false
def Ad(ts:Array E1):Bool:=match ts[0]? with
 |some t=>match P.underlying t with
  |some (.slice _)|some (.array _ _)=>true
  |_=>false
 |none=>false
def qw(a:Option Tmp):Bool:=match a with
 |some d=>isP d
 |none=>true
def uU(g:Option Tmp):Op->Bool
 |.move x|.assign x=>opA good gl x&&(opN good isP x||qw isP g)
 |.pick c a b=>opN good isP c&&opA good gl a&&opA good gl b&&((opN good isP a&&opN good isP b)||qw isP g)
 |.alloc e=>qw isP g&&rF P good e
 |.box _ x=>qw isP g&&opN good isP x
 |.build t ps=>rF P good t&&ps.all λp=>opN good isP p.2
 |.load _ a=>opA good gl a
 |.store _ a v=>opA good gl a&&opN good isP v
 |.binOp _ _ x y _=>opN good isP x&&opN good isP y
 |.unOp _ _ x=>opN good isP x
 |.convert s d x=>isInt P s&&isInt P d&&opN good isP x
 |.fieldAddr s x f=>qw isP g&&opA good gl x&&rR P s f
 |.indexAddr _ x i=>qw isP g&&opA good gl x&&opN good isP i
 |.index _ x i=>opN good isP x&&opN good isP i
 |.extract x _=>opN good isP x
 |.slice t x h j k=>qw isP g&&Oy P t&&opA good gl x&&h.all (opN good isP)&&j.all (opN good isP)&&k.isNone
 |.call {callee:=.value f,args, ..}=>opN good isP f&&args.all (opN good isP)
 |.call {callee:=.builtin .len,args,argTypes}=>args.size==1&&args.all (opA good gl)&&Ad P argTypes
 |.call {callee:=.builtin .max,args, ..}=>args.all (opN good isP)
 |.panic x=>opN good isP x
 |_=>false
end
def nN(P:E2)(a:Nat->Bool):Prop:=∀f,a f->∃fn,P.funcs[f]?=some fn/\(fn.name== "runtime.NumGoroutine")=false/\
 (fn.body.isSome\/(fn.body=none/\Extern.findNext fn=none/\∃e,Extern.find fn=some e/\(e=add64Entry\/e=sub64Entry)))
def qJ(P:E2)(b:Nat->Bool)(σ:Nat->Nat)(e:Bool):Next->Next->Prop
 |.value v,.value v'=>v'=ren σ v/\(e\/Nv b v)
 |.skip,.skip=>True
 |.enter f args,.enter f' d=>f'=f/\d=args/\b f/\(∀a,a∈args->Nv b a)/\∃fn c,P.funcs[f]?=some fn/\fn.body=some c
 |_,_=>False
section
variable{P:E2}{good gl:Nat->Bool}{isP:Nat->Bool}{σ:Nat->Nat}
def wC{m:String}(h:∀v,v∈args->Nv good v):Dry P good σ (λ_=>True) (Extern.MathBitsCarry.three m args):=by
 obtain⟨l⟩:=args
 match l with
 |[x,y,c]=>
  refine(qx (h c sM)).bind λc _=>?_;have a:Dry P good σ (λ_=>True) (do pure ((<-asInt x).toNat,(<-asInt y).toNat,c.toNat):Sem (Nat×Nat×Nat)):=
   (qx (h x sM)).bind λx _=>(qx (h y sM)).bind λy _=>SEq.pure ⟨rfl,trivial⟩
  exact c9 (AH sM _) a
 |[]|[_]|[_,_]|_::_::_::_::_=>exact aep
def DZ(a b:Nat):Nv good (Extern.MathBitsCarry.pair a b):=.tuple _ (by
 intro v c;simp only[aaX,ZM,ZG,aaV]at c;rcases c with rfl|rfl<;>exact .int _ _)
def xn(l:nN P good)(g:good f)(d:∀a,a∈args->Nv good a)(h:Bool):SEq P good σ (qJ P good σ h) (callFunc f args) (callFunc f args):=by
 obtain⟨fn,i,m,b⟩:=l f g;unfold callFunc;refine aev (Q:=λp j=>p=P/\j=P) (.program (.pure ⟨rfl,rfl⟩)) ?_;rintro p j⟨e1,e2⟩;rw[e1,e2];simp only[i,m];rcases b with b|⟨b,n,e,o,q⟩
 .have s:fn.body.isNone=false:=by cases z:fn.body<;>simp_all
  simp only[s];obtain⟨c,w⟩:=aeg.1 b;exact SEq.pure ⟨rfl,rfl,g,d,fn,c,i,w⟩
 simp only[b,n,o];refine SEq.mark ?_;have:Dry P good σ (Nv good) (e args):=by
  rcases q with rfl|rfl
  .exact(wC d).bind λr _=>SEq.pure ⟨rfl,DZ _ _⟩
  exact(wC d).bind λr _=>SEq.pure ⟨rfl,DZ _ _⟩
 show SEq P good σ (qJ P good σ h) (e args>>=λv=>pure (Next.value v)) (e args>>=λv=>pure (Next.value v));refine aex this λv k=>SEq.pure ?_;exact⟨(lP k).symm,.inr k⟩
def GW(hG:nN P good){ρ ρ':Operand->Aq}(E:∀x,opA good gl x->ρ' x=ren σ (ρ x))(n:∀x,opN good isP x->Nv good (ρ x))(V:∀x,opN good isP x->opA good gl x){o:Oper}
 (j:uU P good gl isP o.dst o.op):SEq P good σ (qJ P good σ (qw isP o.dst)) (Lk ρ o) (Lk ρ' o):=by
 have w:∀x,opN good isP x->ρ' x=ρ x:=λx C=>(E x (V x C)).trans (lP (n x C));have F:∀{s s':Sem Aq},SEq P good σ (λa a'=>a'=a/\Nv good a) s s'->SEq P good σ (qJ P good σ (qw isP o.dst)) (do pure (.value (<-s))) (do pure (.value (<-s'))):=λh=>aev h λa a' h=>SEq.pure ⟨by rw[h.1,lP h.2],.inr h.2⟩;have L:∀{s s':Sem Aq},qw isP o.dst->SEq P good σ (λa a'=>a'=ren σ a) s s'->SEq P good σ (qJ P good σ (qw isP o.dst)) (do pure (.value (<-s))) (do pure (.value (<-s'))):=λK h=>aev h λa a' h=>SEq.pure ⟨h,.inl K⟩;obtain⟨dst,op,B,pos,W,guard⟩:=o;unfold Lk;dsimp only at j F L⊢;cases op<;>simp only[uU,aab,abi]at j<;>first|cases j;done|dsimp only
 case move x=>exact SEq.pure ⟨E x j.1,j.2.symm.imp id (n x)⟩
 case assign x=>exact SEq.pure ⟨E x j.1,j.2.symm.imp id (n x)⟩
 case pick c a b=>
  obtain⟨⟨⟨hc,X⟩,hb⟩,D⟩:=j;rw[w c hc];refine(C8 (n c hc)).bind λt _=>SEq.pure ?_;cases t
  .exact⟨E b hb,D.symm.imp id λh=>n b h.2⟩
  exact⟨E a X,D.symm.imp id λh=>n a h.1⟩
 case alloc e=>
  refine L j.1 ?_;unfold Instr.alloc;have M:EP P good e:=by
   intro i v G A;have:=j.2;unfold rF at this;rw[G]at this;simp only[A]at this;exact mS this
  exact(AG M).bind λz M=>aev (sV e M) λa a' h=>SEq.pure (by rw[h];rfl)
 case box e x=>
  rw[w x j.2];exact L j.1 (aev (sV e (n x j.2)) λa a' h=>SEq.pure (by rw[h];rfl))
 case build t ps=>
  have M:EP P good t:=by
   intro i v G A;have:=j.1;unfold rF at this;rw[G]at this;simp only[A]at this;exact mS this
  have Y:(ps.map λ(i,x)=>(i,ρ' x))=ps.map λ(i,x)=>(i,ρ x):=by
   apply acS;intro p K;have:=w p.2 (ZY.1 j.2 p K);obtain⟨i,y⟩:=p;simp only at this⊢;rw[this]
  rw[Y];refine F (G0 M λp K=>?_);obtain⟨q,Z,rfl⟩:=ac3.1 K;exact n q.2 (ZY.1 j.2 q Z)
 case load t a=>
  rw[E a j];exact F (aev (fQ (ρ a)) λx x' h=>by rw[h];exact qR t x)
 case store t a x=>
  rw[E a j.1,w x j.2];exact aev (aev (fQ (ρ a)) λy y' h=>by rw[h];exact xm t y (n x j.2)) λ_ _ _=>SEq.pure trivial
 case binOp op t x y yt=>
  rw[w x j.1,w y j.2];exact F ((AJ op t x y (n x j.1) (n y j.2)).bind λ_ _=>G1 op t (n x j.1) (n y j.2))
 case unOp op t x=>
  rw[w x j];exact F (GY op (n x j))
 case convert s d x=>
  obtain⟨⟨N,D⟩,C⟩:=j;rw[w x C];unfold isInt at N D;split at N<;>first|cases N;done|skip
  split at D<;>first|cases D;done|skip
  exact F (AL asT asT (n x C))
 case slice t x T G mx=>
  obtain⟨⟨⟨⟨⟨D,O⟩,C⟩,Q⟩,R⟩,aa⟩:=j;rw[E x C];have el:T.map ρ'=T.map ρ:=by cases T with|none=>rfl|some y=>simp only[aaJ];rw[w y (by simpa using Q)]
  have eh:G.map ρ'=G.map ρ:=by cases G with|none=>rfl|some y=>simp only[aaJ];rw[w y (by simpa using R)]
  have U:mx=none:=by cases mx with|none=>rfl|some y=>simp at aa
  subst U;rw[el,eh];unfold Oy at O;split at O<;>first|cases O;done|skip
  refine L D (yX asT (ρ x) (λv A=>?_) λv A=>?_)
  .cases T with
   |none=>cases A
   |some y=>cases A;exact n y (by simpa using Q)
  cases G with
  |none=>cases A
  |some y=>cases A;exact n y (by simpa using R)
 case fieldAddr s x f=>
  obtain⟨⟨D,C⟩,J⟩:=j;rw[E x C];unfold rR at J;split at J<;>first|cases J;done|skip
  split at J<;>first|cases J;done|skip
  split at J<;>first|cases J;done|skip
  exact L D (zf asT asT asT (by simpa using J) (ρ x))
 case indexAddr t x i=>
  obtain⟨⟨D,C⟩,G⟩:=j;rw[E x C,w i G];exact L D (ze t (ρ x) (n i G))
 case index t x i=>
  rw[w x j.1,w i j.2];exact F (GZ t (n x j.1) (n i j.2))
 case extract x i=>
  rw[w x j];exact F (AI (n x j) i)
 case panic x=>
  rw[w x j];refine F ?_;have A:=n x j;unfold Instr.panic;generalize ρ x=v at A;cases A<;>exact aep
 case call c=>
  obtain⟨I,args,k⟩:=c;have H:∀(h:args.all (opN good isP)),args.map ρ'=args.map ρ/\∀v,v∈args.map ρ->Nv good v:=λh=>⟨by
   apply acS;intro p K;exact w p (ZY.1 h p K),λv A=>by
   obtain⟨q,Z,rfl⟩:=ac3.1 A;exact n q (ZY.1 h q Z)⟩
  cases I with
  |invoke r m=>simp only[uU]at j;cases j
  |value f=>
   simp only[uU,aab]at j;obtain⟨ea,na⟩:=H j.2;show SEq P good σ _ ((Deferred.ofValue (ρ f) (args.map ρ))>>=λd=>invoke d.target d.args) ((Deferred.ofValue (ρ' f) (args.map ρ'))>>=λd=>invoke d.target d.args);rw[ea,w f j.1];have A:=n f j.1;generalize ρ f=v at A;cases A with
   |nilFunc=>exact(jj (Pst:=λ_=>False) (.inr (.inl rfl))).mono λ_ _ h=>h.2.elim
   |func g hg=>
    show SEq P good σ _ (callFunc g ((#[]++args.map ρ)++#[])) (callFunc g ((#[]++args.map ρ)++#[]));simp only[Array.append_empty,ad9];exact xn hG hg na _
   |_=>exact aep
  |builtin b=>
   cases b<;>first|(simp only[uU]at j;cases j;done)|skip
   .simp only[uU,aab,abH]at j;obtain⟨⟨N,X⟩,S⟩:=j;obtain⟨l⟩:=args
    match l,N with
    |[x],_=>
     (have C:opA good gl x:=by simpa using X);unfold Ad at S;split at S
     .rename_i t O;show SEq P good σ _ ((Builtin.len_ k B (Array.map ρ ⟨[x]⟩))>>=λa=>pure (Next.value a)) ((Builtin.len_ k B (Array.map ρ' ⟨[x]⟩))>>=λa=>pure (Next.value a));have U:∀f:Operand->Aq,Array.map f ⟨[x]⟩=#[f x]:=λf=>sM;rw[U,U,E x C];refine F (Ng O ?_);split at S
      .exact .inl ⟨_,asT⟩
      .exact .inr ⟨_,_,asT⟩
      cases S
     cases S
   simp only[uU]at j;obtain⟨ea,na⟩:=H j;show SEq P good σ _ ((Builtin.max_ k B (args.map ρ))>>=λa=>pure (Next.value a)) ((Builtin.max_ k B (args.map ρ'))>>=λa=>pure (Next.value a));rw[ea];exact F (Nf na)
end
end
section
open Go.Conc
variable{c fr:K0}{cs l l':List K0}{es:Array Nc}{fn:Nat}{g g' gl':Ar}{k todo':List Item}{ops:Array Oper}{tmps:Array Aq}{v w w':AK}{x:Aq}
section
variable{P:E2}
def C5{d:Option Dying}{b:Nat}(h:early P fr cs d b w=.go g' w' es):w.drawn<=w'.drawn/\(w:Nat)<=w':=by
 have m:∀(g:Nat)(w:AK),w.drawn<=(dt ((choose (.early g)).run P w)).drawn/\(w:Nat)<=(dt ((choose (.early g)).run P w)):=by
  intro g w;simp[choose,Sem.run,Question.forced,dt]
 have o:∀{j:AK}{e1:Array Nc}{n:Ar}{a:AK},(match a.heap[b]? with
  |some (.pending c f)=>GStep.go {frame:=fr,callers:=cs,status:=.running,dying:=d} {a with heap:=a.heap.setIfInBounds b (.cells c f)}
  |_=>.ended (.stuck "early: the variable does not wait" (fr.pos P)) a)=.go n j e1->a.drawn<=j.drawn/\(a:Nat)<=j:=by
  intro j e1 n a h;split at h
  .cases h;simp
  cases h
 unfold early at h;dsimp only at h;repeat' split at h
 all_goals first
  |(cases h;done)
  |(cases h;exact⟨Zo _,Zo _⟩)
  |(cases h;simp;done)
  |(rename_i e;have i:=m b w;rw[e]at i;cases h;simpa[dt]using i)
  |(rename_i e _ _ _ _;have i:=m b w;rw[e]at i;cases h;simpa[dt]using i)
  |skip
def jm{a:Array Nc}{x:GStep}(h:GStep.after es x=.go g' w' a):∃e,x=.go g' w' e/\a=es++e:=by
 cases x<;>simp only[GStep.after]at h<;>first|(cases h;done)|(injection h with h1 h2 h3;exact⟨_,by rw[h1,h2],h3.symm⟩)
def qy{l:List ByteArray}{m:String}{b:Bool}(h:dieOf fr l m b w=.go g' w' es):reg g'=false:=by
 unfold dieOf at h;injection h with h1 h2 h3;subst h1;rfl
def xW{d:Option Dying}{m:String}(h:endFatal P fr cs d m w=.go g' w' es):reg g'=false:=by
 unfold endFatal at h;dsimp only at h;split at h
 .exact qy h
 .cases h
 cases h
def ld{s:Sem Next}{v':AK}(h:stepG.apply P true fr cs none s v=.go g' v' es)(j:reg g'):
 (dt (s.runT P v #[]).1).drawn<=v'.drawn/\((dt (s.runT P v #[]).1):Nat)<=v':=by
 unfold stepG.apply at h;simp only[aba]at h;generalize s.runT P v #[]=x at h⊢;obtain⟨r,f⟩:=x;obtain⟨e,d,_⟩:=jm h;clear h;have h:=d;clear d;dsimp only at h;have a:∀{g:Ar}{w:AK}{e1:Array Nc},GStep.go g w e1=.go g' v' e->w.drawn<=v'.drawn/\(w:Nat)<=v':=by
  intro g w e1 h;injection h with _ h2 _;subst h2;exact⟨Zo _,Zo _⟩
 cases r with
 |ok n w=>
  simp only[dt];cases n<;>dsimp only at h<;>first|exact a h|(cases h;done)|skip
  all_goals(repeat' split at h)
  all_goals first|exact a h|(cases h;done)|(exfalso;have:=qy h;simp_all;done)
 |halt i w=>
  simp only[dt];cases i with
  |unsupported u=>
   cases u with
   |initOrder b=>exact C5 h
   |_=>cases h
  |fatal m=>exfalso;have:=xW h;simp_all
  |throw m=>exfalso;have:=qy h;simp_all
  |_=>first|exact a h|cases h
end
section
variable(P:E2)(good gl:Nat->Bool)(pf:Nat->Nat->Bool)
def ef(f:Nat):Code->Bool
 |.skip|.ret|.exit _=>true
 |.region _ ops _=>ops.all λo=>uU P good gl (pf f) o.dst o.op
 |.seq a b=>ef f a&&ef f b
 |.cond c a b=>opA good gl c&&ef f a&&ef f b
 |.block _ b|.loop b=>ef f b
 |_=>false
def bV(f:Nat):Item->Bool
 |.code c=>ef P good gl pf f c
 |.inBlock _=>true
 |.inLoop b=>ef P good gl pf f b
 |.inRegion ops _=>ops.all λo=>uU P good gl (pf f) o.dst o.op
 |_=>false
def Gi(f:Nat)(fn:Func):Bool:=
 (match fn.body with|some c=>ef P good gl pf f c|none=>true)&&fn.results.all λr=>match r with|.tmp t=>!pf f t|.cell _ _=>true
structure rq(s0:Nat):Prop where
 f:nN P good
 ok:∀f fn,good f->P.funcs[f]?=some fn->Gi P good gl pf f fn
 gl:∀g,gl g->g<s0
structure FI(fn:Nat)(tmps:Array Aq)(todo:List Item):Prop where
 isGood:good fn
 items:∀it,it∈todo->bV P good gl pf fn it
 nv:∀t,pf fn t=false->Nv good (tmps.getD t C0)
end
def frm(fn:Nat)(tmps:Array Aq)(todo:List Item)(mode:FrameMode):K0:={fn,tmps,todo,defers:=[],mode,kind:=.normal}
inductive FRs(P:E2)(good gl:Nat->Bool)(pf:Nat->Nat->Bool)(σ:Nat->Nat):List K0->List K0->Prop
 |nil:FRs P good gl pf σ [] []
 |cons {fn:Nat} {tmps:Array Aq} {todo:List Item} {mode:FrameMode} {l l':List K0}:FI P good gl pf fn tmps todo->FRs P good gl pf σ l l'->FRs P good gl pf σ (frm fn tmps todo mode::l) (frm fn (tmps.map (ren σ)) todo mode::l')
def c0:K0:={fn:=0,tmps:=#[],todo:=[.extern "" #[],.code (.refuse "")],defers:=[{target:=.nil,args:=#[]}],mode:=.run,kind:=.normal}
def Og(a:Nat->Bool)(c:K0)(cs:List K0)(gl' g:Ar):Prop:=
 (∃x,Nv a x/\gl'=G (c0.finish x) []/\g=G (c.finish x) cs)\/∃b,gl'=G {c0 with mode:=.panicking b} []/\reg g
def Live(P:E2)(a gl:Nat->Bool)(b:Nat->Nat->Bool)(σ:Nat->Nat)(cs:List K0)(gl' g:Ar):Prop:=
 ∃fn tmps todo mode l l',FI P a gl b fn tmps todo/\FRs P a gl b σ l l'/\gl'=G (frm fn tmps todo mode) (l++[c0])/\g=G (frm fn (tmps.map (ren σ)) todo mode) (l'++cs)
section
variable{P:E2}{good gl:Nat->Bool}{pf:Nat->Nat->Bool}{σ:Nat->Nat}{s0:Nat}{Keep M:Nat->Prop}{wl v:AK}{main:Bool}
def wF(h:Og good c cs gl' g)(w:AK):∃o w' es,KC P true gl' w=.ended o w' es:=by
 rcases h with⟨x,_,rfl,_⟩|⟨a,rfl,_⟩
 .exact⟨_,_,_,by simp[G,c0,Frame.finish,KC,stepG.exec];exact⟨rfl,rfl,rfl⟩⟩
 exact⟨_,_,_,by simp[G,c0,KC,unwind,callDeferred];exact⟨rfl,rfl,rfl⟩⟩
def Ran.same(a:WR good σ s0 Keep M wl v):Ran good σ s0 Keep M wl v wl v:=
 ⟨a.mono (λ_ h=>.inl h) (λb d=>d.elim (a.mb b) λh=>oM) (λb d e=>e.elim (a.kb b d).2 oM),.refl _ _,rfl,oM,oM⟩
def tO(tmps:Array Aq)(t:Nat):(tmps.map (ren σ)).getD t C0=ren σ (tmps.getD t C0):=by
 simp only[aay,abv];cases tmps[t]?<;>rfl
def AE(d:rq P good gl pf s0)(e:∀b,b<s0->σ b=b)(fn:Nat)(tmps:Array Aq)(todo:List Item)(mode:FrameMode){x:Operand}(a:opA good gl x):
 (frm fn (tmps.map (ren σ)) todo mode).eval x=ren σ ((frm fn tmps todo mode).eval x):=by
 cases x with
 |tmp t=>exact tO tmps t
 |const v=>exact(lP (mS a)).symm
 |global g=>
  show pT g 0=pT (σ g) 0;rw[e g (d.gl g a)]
 |func f=>rfl
def Ct{isP:Nat->Bool}{x:Operand}(h:opN good isP x):opA good gl x:=by
 cases x<;>simp_all [opN,opA]
def M9{todo:List Item}{mode:FrameMode}(h:FI P good gl pf fn tmps todo){x:Operand}(a:opN good (pf fn) x):Nv good ((frm fn tmps todo mode).eval x):=by
 cases x with
 |tmp t=>exact h.nv t (by simpa[opN]using a)
 |const v=>exact mS a
 |global g=>cases a
 |func f=>exact .func f a
def je:Nv good C0:=.tuple _ sM
def og{id:Nat}:∀{k k':List Item},exitTo id k=k'->∀b,b∈k'->b∈k
 |[],k',h,b,a=>by cases h
 |x::k,k',h,b,a=>by
  have zp:exitTo id k=k'->b∈x::k:=λh=>aai _ (og h b a);cases x<;>simp only[exitTo]at h<;>first|exact zp h|skip
  split at h
  .cases h;exact aai _ a
  exact zp h
def FI.todo{todo:List Item}(h:FI P good gl pf fn tmps todo)(k:∀a,a∈todo'->bV P good gl pf fn a):FI P good gl pf fn tmps todo':=⟨h.isGood,k,h.nv⟩
def FI.put{todo:List Item}(h:FI P good gl pf fn tmps todo)(k:∀b,b∈todo'->bV P good gl pf fn b){d:Nat}(a:pf fn d\/Nv good x):FI P good gl pf fn (tmps.setIfInBounds d x) todo':=by
 refine⟨h.isGood,k,λt e=>?_⟩;simp only[aay];by_cases f:d=t
 .subst f;by_cases i:d<tmps.size
  .rw[Z0 i];rcases a with a|a
   .rw[e]at a;cases a
   exact a
  rw[abh (by simpa using adw i)];exact je
 rw[ZF f];have:=h.nv t e
 rwa [aay]at this
def qK(ops:Array Oper)(tmps:Array Aq)(j:Nat):yielded ops (tmps.map (ren σ)) j=yielded ops tmps j:=by
 unfold yielded;cases(ops[j]?).bind (·.dst)with
 |none=>rfl
 |some d=>
  simp only[acy,abv];cases tmps[d]? with
  |none=>rfl
  |some x=>
   cases x<;>try rfl
   .rename_i a;cases a<;>rfl
   rename_i a _ _;cases a<;>rfl
def oI{fn:FuncId}{e:Nc}(h:e∈seen P fn es):e∈es:=by
 unfold seen at h;dsimp only at h;have j:∀(l:List Nc)(q:Bool)(a:Array Nc),e∈(l.foldl (λ(x:Bool×Array Nc)e=>match e.loc with
  |.mark (.extern f)=>((P.funcs[f]?).any λ(y:Func)=>y.norace,x.2)
  |_=>(x.1,if x.1&&!e.sync then x.2 else x.2.push e)) (q,a)).2->e∈a\/e∈l:=by
  intro l;induction l with
  |nil=>intro q a h;exact .inl h
  |cons y l n=>
   intro q a h;rw[acE]at h;have step:∀(d:Bool)(b:Array Nc),(∀z,z∈b->z∈a\/z=y)->e∈b\/e∈l->e∈a\/e∈y::l:=by
    intro d b m h;rcases h with h|h
    .rcases m e h with h|rfl
     .exact .inl h
     exact .inr sM
    exact .inr (by simp[h])
   rcases hm:(match y.loc with
    |.mark (.extern f)=>((P.funcs[f]?).any λ(y:Func)=>y.norace,a)
    |_=>(q,if q&&!y.sync then a else a.push y))with⟨d,b⟩
   have m:∀z,z∈b->z∈a\/z=y:=by
    intro z i;split at hm
    .cases hm;exact .inl i
    injection hm with _ h2;subst h2;split at i
    .exact .inl i
    exact aa2.1 i
   refine step d b m (n d b ?_);rw[<-hm];exact h
 rw[<-adb]at h;rcases j es.toList _ _ h with h|h
 .simp at h
 exact aaC.1 h
def jR{f:AK->Nat}{x:GStep}{n j:Nat}(h:∀g' v' es,x=.go g' v' es->reg g'->n<=f v')(b:f v+j<n):Win f x v j:=by
 unfold Win;cases x with
 |go g' v' es=>intro a;have:=h g' v' es rfl a;omega
 |_=>trivial
def Dp(P:E2)(good gl:Nat->Bool)(pf:Nat->Nat->Bool)(σ:Nat->Nat)(s0:Nat)(Keep M:Nat->Prop)(main:Bool)(c:K0)(cs:List K0)(gl' g:Ar)(wl v:AK):Prop:=
 (∃o w es,KC P true gl' wl=.ended o w es)\/
 ∃a b d g' v' es,KC P true gl' wl=.go a b d/\KC P main g v=.go g' v' es/\(Live P good gl pf σ (c::cs) a g'\/Og good c cs a g')/\Ran good σ s0 Keep M wl v b v'/\∀e,e∈es->ov (bP M v v') Keep e
def ni{todo:List Item}(mode:FrameMode)(h:FI P good gl pf fn tmps todo)(m:∀ops i a k d,todo=.inRegion ops (i::a)::k->(ops[i]?).bind (·.dst)=some d->pf fn d\/Nv good x):
 ∃b todo',(frm fn tmps todo mode).finish x=frm fn b todo' mode/\(frm fn (tmps.map (ren σ)) todo mode).finish (ren σ x)=frm fn (b.map (ren σ)) todo' mode/\FI P good gl pf fn b todo':=by
 match todo,h,m with
 |[],h,_=>exact⟨tmps,[],rfl,rfl,h⟩
 |.inRegion ops []::k,h,_=>exact⟨tmps,_,rfl,rfl,h⟩
 |.inRegion ops (i::a)::k,h,m=>
  have n:∀j,j∈.inRegion ops a::k->bV P good gl pf fn j:=by
   intro j e;rcases ZM.1 e with rfl|e
   .exact h.items (.inRegion ops (i::a)) sM
   exact h.items j (by simp[e])
  cases f:(ops[i]?).bind (·.dst)with
  |none=>exact⟨tmps,.inRegion ops a::k,by simp[Frame.finish,frm,f],by simp[Frame.finish,frm,f],h.todo n⟩
  |some d=>exact⟨tmps.setIfInBounds d x,.inRegion ops a::k,by simp[Frame.finish,frm,f],by simp[Frame.finish,frm,f],h.put n (m _ _ _ _ d rfl f)⟩
 |.code c::k,h,_=>exact⟨tmps,_,rfl,rfl,h⟩
 |.inBlock _::k,h,_=>exact⟨tmps,_,rfl,rfl,h⟩
 |.inLoop _::k,h,_=>exact⟨tmps,_,rfl,rfl,h⟩
 |.inScope _::k,h,_=>exact⟨tmps,_,rfl,rfl,h⟩
 |.inRangeFunc _::k,h,_=>exact absurd (h.items _ (ZJ ..)) (by simp[bV])
 |.endRangeFunc _::k,h,_=>exact⟨tmps,_,rfl,rfl,h⟩
 |.beginRound::k,h,_=>exact absurd (h.items _ (ZJ ..)) (by simp[bV])
 |.call ..::k,h,_=>exact absurd (h.items _ (ZJ ..)) (by simp[bV])
 |.extern ..::k,h,_=>exact absurd (h.items _ (ZJ ..)) (by simp[bV])
def yY{fn:Func}{f:Nat}{todo:List Item}(p:FI P good gl pf f tmps todo)(i:(fn.results.all λr=>match r with|.tmp t=>!pf f t|.cell _ _=>true)=true):
 SEq P good σ (λa a'=>a'=a/\Nv good a) (results fn tmps) (results fn (tmps.map (ren σ))):=by
 have e:∀r,r∈fn.results.toList->(match r with|.tmp t=>!pf f t|.cell _ _=>true)=true:=λr h=>ZY.1 i r (aaC.1 h);have one:∀r,(match r with|.tmp t=>!pf f t|.cell _ _=>true)=true->SEq P good σ (λa a'=>a'=a/\Nv good a)
  ((λ(r:ResultVar)=>match r with|.tmp t=>(pure (tmps.getD t C0):Sem Aq)|.cell a t=>do loadVar t (<-asAddr (tmps.getD a C0))) r)
  ((λ(r:ResultVar)=>match r with|.tmp t=>(pure ((tmps.map (ren σ)).getD t C0):Sem Aq)|.cell a t=>do loadVar t (<-asAddr ((tmps.map (ren σ)).getD a C0))) r):=by
  intro r i;cases r with
  |tmp t=>
   have n:=p.nv t (by simpa using i);refine SEq.pure ⟨?_,n⟩;rw[tO,lP n]
  |cell a t=>
   dsimp only;rw[tO];generalize tmps.getD a C0=x;have d:SEq P good σ (λa a'=>a'=eF σ a) (asAddr x) (asAddr (ren σ x)):=by
    match x with
    |.pointer (some a)=>exact SEq.pure rfl
    |.pointer none=>exact(jj (Pst:=λ_=>False) (.inr (.inl rfl))).mono λ_ _ h=>h.2.elim
    |.slice (some _) _ _|.slice none _ _|.bool _|.int _ _|.float _ _|.complex _ _ _|.string _|.map _|.chan _|.func _ _ _|.nilFunc|.iface _ _|.nilIface|.agg _|.tuple _=>exact aep
   exact aev d λy q h=>by rw[h];exact qR t y
 have j:SEq P good σ (λa a'=>a'=a/\∀x,x∈a->Nv good x)
  (fn.results.mapM λ(r:ResultVar)=>match r with|.tmp t=>(pure (tmps.getD t C0):Sem Aq)|.cell a t=>do loadVar t (<-asAddr (tmps.getD a C0)))
  (fn.results.mapM λ(r:ResultVar)=>match r with|.tmp t=>(pure ((tmps.map (ren σ)).getD t C0):Sem Aq)|.cell a t=>do loadVar t (<-asAddr ((tmps.map (ren σ)).getD a C0))):=by
  rw[acT,acT,<-ac0,<-ac0];generalize fn.results.toList=rs at e;have:∀(b:Array Aq),(∀x,x∈b->Nv good x)->SEq P good σ (λa a'=>a'=a/\∀x,x∈a->Nv good x)
   (rs.foldlM (λ(b:Array Aq)r=>do pure (b.push (<-(λ(r:ResultVar)=>match r with|.tmp t=>(pure (tmps.getD t C0):Sem Aq)|.cell a t=>do loadVar t (<-asAddr (tmps.getD a C0))) r))) b)
   (rs.foldlM (λ(b:Array Aq)r=>do pure (b.push (<-(λ(r:ResultVar)=>match r with|.tmp t=>(pure ((tmps.map (ren σ)).getD t C0):Sem Aq)|.cell a t=>do loadVar t (<-asAddr ((tmps.map (ren σ)).getD a C0))) r))) b):=by
   induction rs with
   |nil=>intro b h;exact SEq.pure ⟨rfl,h⟩
   |cons r rs s=>
    intro b h;rw[acX,acX];refine aev (Q:=λa a'=>a'=a/\∀x,x∈a->Nv good x) (aev (one r (e r sM)) λy q o=>SEq.pure ⟨by rw[o.1],?_⟩) λa a' d=>?_
    .intro x m;rcases aa2.1 m with m|rfl
     .exact h x m
     exact o.2
    rw[d.1];exact s (λr i=>e r (by simp[i])) a d.2
  exact this #[] sM
 unfold results;refine aev j λa a' d=>?_;rw[d.1];refine SEq.pure ⟨rfl,?_⟩;split
 .exact d.2 _ sM
 exact .tuple _ d.2
def FI.tail{x:Item}(h:FI P good gl pf fn tmps (x::k)):∀a,a∈k->bV P good gl pf fn a:=λa b=>h.items a (by simp[b])
def a7(a:fr.kind=.normal)(m:Bool):doReturn P m fr (c::cs) none x w=.go {frame:=c.finish x,callers:=cs,status:=.running,dying:=none} w:=by
 unfold doReturn;simp[a]
section
variable{fr:K0}{cs:List K0}{s:Sem Next}{w w':AK}{es:Array Nc}
def jF(a:fr.kind=.normal)(h:s.runT P w #[]=(.ok (.value x) w',es)):stepG.apply P true fr cs none s w=.go (G (fr.finish x) cs) w' (seen P fr.fn es):=by
 unfold stepG.apply;simp only[aba];rw[h];simp only[a];simp[GStep.after,G]
def kZ(a:fr.kind=.normal)(h:s.runT P w #[]=(.ok .skip w',es)):stepG.apply P true fr cs none s w=.go (G (fr.finish C0) cs) w' (seen P fr.fn es):=by
 unfold stepG.apply;simp only[aba];rw[h];simp only[a];simp[GStep.after,G]
def rl{f:FuncId}{args:Array Aq}{l:List Nat}(a:fr.kind=.normal)(b:fr.todo=.inRegion ops l::k)(h:s.runT P w #[]=(.ok (.enter f args) w',es)):stepG.apply P true fr cs none s w=.go (G (Frame.enter P f args .normal) (fr::cs)) w' (seen P fr.fn es):=by
 unfold stepG.apply;simp only[aba];rw[h];simp only[a,b];simp[GStep.after,G]
def jG(a:fr.kind=.normal)(h:s.runT P w #[]=(.halt (.panic x) w',es)):stepG.apply P true fr cs none s w=.go (G (fr.raise [{v:=x,recovered:=false}]) cs) w' (seen P fr.fn es):=by
 unfold stepG.apply;simp only[aba];rw[h];simp only[a];simp[GStep.after,G]
def um{h:Halt}(a:(s.runT P w #[]).1=.halt h w')(d:ot h):∃o f b,stepG.apply P true fr cs none s w=.ended o f b:=by
 rcases hx:s.runT P w #[]with⟨r,e⟩;rw[hx]at a;simp only at a;subst a;unfold stepG.apply;simp only[aba];rw[hx];rcases d with⟨m,rfl⟩|⟨u,rfl,i⟩
 .exact⟨_,_,_,rfl⟩
 cases u<;>first
  |exact absurd rfl (i _)
  |exact⟨_,_,_,rfl⟩
end
def MH(V:rq P good gl pf s0){i:Nat}{a:List Nat}(C:FI P good gl pf fn tmps (.inRegion ops (i::a)::k))(L:FRs P good gl pf σ l l')(W:WR good σ s0 Keep M wl v)
 (ht:∀j q,Win World.drawn (KC P main (G (frm fn (tmps.map (ren σ)) (.inRegion ops (i::a)::k) .run) (l'++c::cs)) v) v j->wl.tape (wl.drawn+j) q=v.tape (v.drawn+j) q)
 (hs:∀j,Win (·.heap.size) (KC P main (G (frm fn (tmps.map (ren σ)) (.inRegion ops (i::a)::k) .run) (l'++c::cs)) v) v j->σ (wl+j)=v+j):Dp P good gl pf σ s0 Keep M main c cs (G (frm fn tmps (.inRegion ops (i::a)::k) .run) (l++[c0])) (G (frm fn (tmps.map (ren σ)) (.inRegion ops (i::a)::k) .run) (l'++c::cs)) wl v:=by
 have hb:=C.items _ (ZJ ..);have X:∀D,D∈.inRegion ops a::k->bV P good gl pf fn D:=by
  intro D s;rcases ZM.1 s with rfl|s
  .exact hb
  exact C.tail D s
 cases y:((ops[i]?).map (Region.wanted · (yielded ops tmps))).getD false with
 |false=>
  have U:yielded ops (tmps.map (ren σ))=yielded ops tmps:=funext λj=>qK ops tmps j;have e1:∀(m:Bool)(tm:Array Aq)(cs:List K0)(w:AK),yielded ops tm=yielded ops tmps->KC P m (G (frm fn tm (.inRegion ops (i::a)::k) .run) cs) w=.go (G ((frm fn tm (.inRegion ops (i::a)::k) .run).finish C0) cs) w #[]:=by
   intro m tm cs w h;simp only[frm]at*;simp[G,KC,stepG.exec,h,y]
  obtain⟨b,todo',f1,f2,f3⟩:=ni (σ:=σ) .run C (x:=C0) (λ_ _ _ _ _ _ _=>.inr je);exact .inr ⟨_,_,_,_,_,_,e1 _ _ _ _ rfl,e1 _ _ _ _ U,.inl ⟨fn,b,todo',.run,l,l',f3,L,by rw[f1],by rw[<-f2];rfl⟩,.same W,sM⟩
 |true=>
  cases N:ops[i]? with
  |none=>rw[N]at y;simp at y
  |some o=>
   rw[N]at y;simp only[aaJ,ZR]at y;have Y:uU P good gl (pf fn) o.dst o.op:=ZY.1 hb o (ZS N);have U:yielded ops (tmps.map (ren σ))=yielded ops tmps:=funext λj=>qK ops tmps j
   let ρ:=(frm fn tmps (.inRegion ops (i::a)::k) .run).eval
   let ρ':=(frm fn (tmps.map (ren σ)) (.inRegion ops (i::a)::k) .run).eval
   have e1:∀(m:Bool)(tm:Array Aq)(cs:List K0)(w:AK),yielded ops tm=yielded ops tmps->KC P m (G (frm fn tm (.inRegion ops (i::a)::k) .run) cs) w=stepG.apply P true (frm fn tm (.inRegion ops (i::a)::k) .run) cs none (Lk (frm fn tm (.inRegion ops (i::a)::k) .run).eval o) w:=by
    intro m tm cs w h;simp only[frm]at*;simp[G,KC,stepG.exec,stepG.oper,Frame.oper?,N,h,y]
   have hS:SEq P good σ (qJ P good σ (qw (pf fn) o.dst)) (Lk ρ o) (Lk ρ' o):=
    GW V.f (gl:=gl) (isP:=pf fn) (λx p=>AE V W.ids fn tmps _ .run p) (λx p=>M9 C p) (λx p=>Ct p) Y
   rw[e1 main _ _ _ U]at ht hs;have hT:=hS.run M wl v #[] #[] W (λj q Z=>ht j q (jR (λg' v' es F A=>(ld F A).1) Z)) (λj Z=>hs j (jR (f:=λw:AK=>w) (λg' v' es F A=>(ld F A).2) Z));unfold Dp;rw[e1 true _ _ _ rfl,e1 main _ _ _ U];rcases hT with⟨h,w,e2,H⟩|⟨n,n',I,v',z,e2,O,hn,A,J⟩|⟨x,I,v',z,e2,O,A,J⟩
   .exact .inl (um e2 H)
   ·(have p:(Lk ρ o).runT P wl #[]=(.ok n I,((Lk ρ o).runT P wl #[]).2):=by rw[<-e2]);have Q:∀e,e∈seen P fn z->ov (bP M v v') Keep e:=λe F=>(J e (oI F)).elim (λh=>by simp at h) id;cases n<;>cases n'<;>first|exact hn.elim|skip
    case value.value x x'=>
     obtain⟨hx1,K⟩:=hn;obtain⟨b,todo',f1,f2,f3⟩:=ni (σ:=σ) .run C (x:=x) (λops' i' rest' k' d hh hd=>by
      cases hh;rw[N]at hd;simp only[acy]at hd;unfold qw at K;rw[hd]at K;exact K)
     subst hx1;refine .inr ⟨_,_,_,_,_,_,jF rfl p,jF rfl O,.inl ⟨fn,b,todo',.run,l,l',f3,L,?_,?_⟩,A,Q⟩
     .rw[f1]
     rw[f2]
    case skip.skip=>
     obtain⟨b,todo',f1,f2,f3⟩:=ni (σ:=σ) .run C (x:=C0) (λ_ _ _ _ _ _ _=>.inr je);refine .inr ⟨_,_,_,_,_,_,kZ rfl p,kZ rfl O,.inl ⟨fn,b,todo',.run,l,l',f3,L,?_,?_⟩,A,Q⟩
     .rw[f1]
     rw[<-f2];rfl
    case enter.enter f args f' args'=>
     obtain⟨rfl,rfl,hf,ha,r,u,h1,h2⟩:=hn;have B:=V.ok _ r hf h1;unfold Gi at B;rw[h2]at B;simp only[aab]at B;have R:Frame.enter P f' args' .normal=frm f' (args'++Array.replicate (r.ntmps-args'.size) C0) [.code u] .run:=by
      simp[Frame.enter,h1,h2,frm]
     have E:∀x,x∈args'++Array.replicate (r.ntmps-args'.size) C0->Nv good x:=by
      intro x p;rcases aby.1 p with p|p
      .exact ha x p
      rw[(acw.1 p).2];exact je
     have S:(args'++Array.replicate (r.ntmps-args'.size) C0).map (ren σ)=args'++Array.replicate (r.ntmps-args'.size) C0:=by
      (conv=>rhs;rw[<-Array.map_id (args'++Array.replicate (r.ntmps-args'.size) C0)]);apply acS;intro x p;exact lP (E x p)
     have T:∀D,D∈[Item.code u]->bV P good gl pf f' D:=by
      intro D s;rcases ZM.1 s with rfl|s
      .exact B.1
      cases s
     have hFI:FI P good gl pf f' (args'++Array.replicate (r.ntmps-args'.size) C0) [.code u]:=by
      refine⟨hf,T,λt _=>?_⟩;rw[aay];cases hq:(args'++Array.replicate (r.ntmps-args'.size) C0)[t]? with
      |none=>exact je
      |some x=>exact E x (ZS hq)
     refine .inr ⟨_,_,_,_,_,_,rl rfl rfl p,rl rfl rfl O,.inl ⟨f',_,[.code u],.run,_::l,_::l',hFI,.cons (mode:=.run) C L,?_,?_⟩,A,Q⟩
     .rw[R];rfl
     rw[S,R];rfl
   (have p:(Lk ρ o).runT P wl #[]=(.halt (.panic x) I,((Lk ρ o).runT P wl #[]).2):=by rw[<-e2]);have Q:∀e,e∈seen P fn z->ov (bP M v v') Keep e:=λe F=>(J e (oI F)).elim (λh=>by simp at h) id;exact .inr ⟨_,_,_,_,_,_,jG rfl p,jG rfl O,.inl ⟨fn,tmps,.inRegion ops (i::a)::k,.panicking [{v:=x,recovered:=false}],l,l',C,L,rfl,rfl⟩,A,Q⟩
def Jy(N:rq P good gl pf s0){todo:List Item}(A:FI P good gl pf fn tmps todo)(T:FRs P good gl pf σ l l')(U:WR good σ s0 Keep M wl v)
 (V:∀j q,Win World.drawn (KC P main (G (frm fn (tmps.map (ren σ)) todo .returning) (l'++c::cs)) v) v j->wl.tape (wl.drawn+j) q=v.tape (v.drawn+j) q)
 (W:∀j,Win (·.heap.size) (KC P main (G (frm fn (tmps.map (ren σ)) todo .returning) (l'++c::cs)) v) v j->σ (wl+j)=v+j):Dp P good gl pf σ s0 Keep M main c cs (G (frm fn tmps todo .returning) (l++[c0])) (G (frm fn (tmps.map (ren σ)) todo .returning) (l'++c::cs)) wl v:=by
 obtain⟨f,O,_,_⟩:=N.f fn A.isGood;have n:=N.ok fn f A.isGood O;unfold Gi at n;simp only[aab]at n;have e1:∀(m:Bool)(tm:Array Aq)(cs:List K0)(w:AK),KC P m (G (frm fn tm todo .returning) cs) w=GStep.after (seen P fn ((results f tm).runT P w #[]).2) (match((results f tm).runT P w #[]).1 with
  |.ok v w=>doReturn P m (frm fn tm todo .returning) cs none v w
  |.halt (.stuck s) w=>.ended (.stuck s ((frm fn tm todo .returning).pos P)) w
  |.halt _ w=>.ended (.stuck "return: the result variables cannot be read" ((frm fn tm todo .returning).pos P)) w):=by
  intro m tm cs w;simp only[G,frm,KC,unwind,O];rfl
 have b:∀g' v' es,KC P main (G (frm fn (tmps.map (ren σ)) todo .returning) (l'++c::cs)) v=.go g' v' es->v'=dt ((results f (tmps.map (ren σ))).runT P v #[]).1:=by
  intro g' v' es a;rw[e1]at a;obtain⟨e,a,_⟩:=jm a;generalize((results f (tmps.map (ren σ))).runT P v #[]).1=r at a;cases r with
  |ok x w=>
   simp only[dt];cases l' with
   |nil=>simp only[aeN]at a;rw[a7 rfl]at a;injection a with _ h2 _;exact h2.symm
   |cons y l2=>simp only[abJ]at a;rw[a7 rfl]at a;injection a with _ h2 _;exact h2.symm
  |halt h w=>cases h<;>cases a
 have X:=yY (P:=P) (σ:=σ) A n.2;have Y:=X.run M wl v #[] #[] U (λj q B=>V j q (jR (λg' v' es a _=>by rw[b g' v' es a];exact Zo _) B)) (λj B=>W j (jR (f:=λw:AK=>w) (λg' v' es a _=>by rw[b g' v' es a];exact Zo _) B));unfold Dp;rw[e1 true,e1 main];rcases Y with⟨h,w,e2,o⟩|⟨x,Q,C,v',i,e2,R,Z,D,z⟩|⟨x,C,v',i,e2,R,D,z⟩
 .refine .inl ?_;rw[e2];rcases o with⟨s,rfl⟩|⟨u,rfl,hu⟩<;>exact⟨_,_,_,rfl⟩
 .rw[e2,R];have S:∀e,e∈seen P fn i++#[]->ov (bP M v v') Keep e:=λe a=>(z e (oI (by simpa using a))).elim (λh=>by simp at h) id;obtain⟨E,p⟩:=Z;subst E;cases T with
  |nil=>
   simp only[aeN];rw[a7 rfl,a7 rfl];exact .inr ⟨_,_,_,_,_,_,rfl,rfl,.inr (.inl ⟨Q,p,rfl,rfl⟩),D,S⟩
  |cons F H=>
   rename_i I J K d l2 L;simp only[abJ];rw[a7 rfl,a7 rfl];obtain⟨t,todo',f1,f2,f3⟩:=ni (σ:=σ) d F (x:=Q) (λ_ _ _ _ _ _ _=>.inr p);rw[lP p]at f2;rw[f1,f2];exact .inr ⟨_,_,_,_,_,_,rfl,rfl,.inl ⟨I,t,todo',d,l2,L,f3,H,rfl,rfl⟩,D,S⟩
 refine .inl ?_;rw[e2];exact⟨_,_,_,rfl⟩
def Jz(q:rq P good gl pf s0){todo:List Item}{d:List PanicEntry}(r:FI P good gl pf fn tmps todo)(s:FRs P good gl pf σ l l')(p:WR good σ s0 Keep M wl v):Dp P good gl pf σ s0 Keep M main c cs (G (frm fn tmps todo (.panicking d)) (l++[c0])) (G (frm fn (tmps.map (ren σ)) todo (.panicking d)) (l'++c::cs)) wl v:=by
 obtain⟨f,t,_,_⟩:=q.f fn r.isGood;have e1:∀(m:Bool)(tm:Array Aq)(y:K0)(cs:List K0)(w:AK),KC P m (G (frm fn tm todo (.panicking d)) (y::cs)) w=.go (G (y.raise d) cs) w #[]:=by
  intro m tm y cs w;simp[G,frm,KC,unwind,Frame.catches,t]
 cases s with
 |nil=>
  exact .inr ⟨_,_,_,_,_,_,e1 _ _ _ _ _,e1 _ _ _ _ _,.inr (.inr ⟨d,rfl,rfl⟩),.same p,sM⟩
 |cons e h=>
  rename_i i a b j l2 n;simp only[abJ];cases j with
  |panicking o=>exact .inr ⟨_,_,_,_,_,_,e1 _ _ _ _ _,e1 _ _ _ _ _,.inl ⟨i,a,b,.panicking (d++o),l2,n,e,h,by simp[frm,Frame.raise],by simp[frm,Frame.raise]⟩,.same p,sM⟩
  |run=>exact .inr ⟨_,_,_,_,_,_,e1 _ _ _ _ _,e1 _ _ _ _ _,.inl ⟨i,a,b,.panicking d,l2,n,e,h,by simp[frm,Frame.raise],by simp[frm,Frame.raise]⟩,.same p,sM⟩
  |returning=>exact .inr ⟨_,_,_,_,_,_,e1 _ _ _ _ _,e1 _ _ _ _ _,.inl ⟨i,a,b,.panicking d,l2,n,e,h,by simp[frm,Frame.raise],by simp[frm,Frame.raise]⟩,.same p,sM⟩
def vX(D:rq P good gl pf s0)(H:Live P good gl pf σ (c::cs) gl' g)(A:WR good σ s0 Keep M wl v)
 (n:∀j q,Win World.drawn (KC P main g v) v j->wl.tape (wl.drawn+j) q=v.tape (v.drawn+j) q)
 (o:∀j,Win (·.heap.size) (KC P main g v) v j->σ ((wl:Nat)+j)=(v:Nat)+j):Dp P good gl pf σ s0 Keep M main c cs gl' g wl v:=by
 obtain⟨fn,tmps,todo,mode,l,l',h,B,rfl,rfl⟩:=H;have d:∀(todo':List Item)(s:FrameMode),(∀u,u∈todo'->bV P good gl pf fn u=true)->
  KC P true (G (frm fn tmps todo mode) (l++[c0])) wl=.go (G (frm fn tmps todo' s) (l++[c0])) wl #[]->
  KC P main (G (frm fn (tmps.map (ren σ)) todo mode) (l'++c::cs)) v=.go (G (frm fn (tmps.map (ren σ)) todo' s) (l'++c::cs)) v #[]->Dp P good gl pf σ s0 Keep M main c cs (G (frm fn tmps todo mode) (l++[c0])) (G (frm fn (tmps.map (ren σ)) todo mode) (l'++c::cs)) wl v:=by
  intro todo' s I J K;exact .inr ⟨_,_,_,_,_,_,J,K,.inl ⟨fn,tmps,todo',s,l,l',h.todo I,B,rfl,rfl⟩,.same A,sM⟩
 match mode,todo,h,n,o,d with
 |.run,[],h,n,o,d=>exact d ([]) .returning sM (by simp[G,frm,KC,stepG.exec]) (by simp[G,frm,KC,stepG.exec])
 |.run,.inBlock b::k,h,n,o,d=>exact d k .run h.tail (by simp[G,frm,KC,stepG.exec]) (by simp[G,frm,KC,stepG.exec])
 |.run,.inScope b::k,h,n,o,d=>exact absurd (h.items _ (ZJ ..)) (by simp[bV])
 |.run,.inRangeFunc _::k,h,n,o,d=>exact absurd (h.items _ (ZJ ..)) (by simp[bV])
 |.run,.endRangeFunc _::k,h,n,o,d=>exact absurd (h.items _ (ZJ ..)) (by simp[bV])
 |.run,.beginRound::k,h,n,o,d=>exact absurd (h.items _ (ZJ ..)) (by simp[bV])
 |.run,.call ..::k,h,n,o,d=>exact absurd (h.items _ (ZJ ..)) (by simp[bV])
 |.run,.extern ..::k,h,n,o,d=>exact absurd (h.items _ (ZJ ..)) (by simp[bV])
 |.run,.inLoop b::k,h,n,o,d=>
  have p:=h.items _ (ZJ ..);exact d (.code b::.inLoop b::k) .run (by
   intro u f;rcases ZM.1 f with rfl|f
   .exact p
   exact h.items u f) (by simp[G,frm,KC,stepG.exec]) (by simp[G,frm,KC,stepG.exec])
 |.run,.inRegion ops []::k,h,n,o,d=>exact d k .run h.tail (by simp[G,frm,KC,stepG.exec]) (by simp[G,frm,KC,stepG.exec])
 |.run,.code .ret::k,h,n,o,d=>exact d (.code .ret::k) .returning h.items (by simp[G,frm,KC,stepG.exec]) (by simp[G,frm,KC,stepG.exec])
 |.run,.code .skip::k,h,n,o,d=>exact d k .run h.tail (by simp[G,frm,KC,stepG.exec]) (by simp[G,frm,KC,stepG.exec])
 |.run,.code (.label _)::k,h,n,o,d=>exact absurd (h.items _ (ZJ ..)) (by simp[bV,ef])
 |.run,.code (.goto _)::k,h,n,o,d=>exact absurd (h.items _ (ZJ ..)) (by simp[bV,ef])
 |.run,.code (.scope _)::k,h,n,o,d=>exact absurd (h.items _ (ZJ ..)) (by simp[bV,ef])
 |.run,.code (.rangeFunc ..)::k,h,n,o,d=>exact absurd (h.items _ (ZJ ..)) (by simp[bV,ef])
 |.run,.code (.refuse _)::k,h,n,o,d=>exact absurd (h.items _ (ZJ ..)) (by simp[bV,ef])
 |.run,.code (.seq a b)::k,h,n,o,d=>
  have p:=h.items _ (ZJ ..);simp only[bV,ef,aab]at p;exact d (.code a::.code b::k) .run (by
   intro u f;rcases ZM.1 f with rfl|f
   .exact p.1
   rcases ZM.1 f with rfl|f
   .exact p.2
   exact h.tail u f) (by simp[G,frm,KC,stepG.exec]) (by simp[G,frm,KC,stepG.exec])
 |.run,.code (.block id b)::k,h,n,o,d=>
  have p:=h.items _ (ZJ ..);simp only[bV,ef]at p;exact d (.code b::.inBlock id::k) .run (by
   intro u f;rcases ZM.1 f with rfl|f
   .exact p
   rcases ZM.1 f with rfl|f
   .rfl
   exact h.tail u f) (by simp[G,frm,KC,stepG.exec]) (by simp[G,frm,KC,stepG.exec])
 |.run,.code (.loop b)::k,h,n,o,d=>
  have p:=h.items _ (ZJ ..);simp only[bV,ef]at p;exact d (.code b::.inLoop b::k) .run (by
   intro u f;rcases ZM.1 f with rfl|f
   .exact p
   rcases ZM.1 f with rfl|f
   .exact p
   exact h.tail u f) (by simp[G,frm,KC,stepG.exec]) (by simp[G,frm,KC,stepG.exec])
 |.run,.code (.cond x a b)::k,h,n,o,d=>
  have p:=h.items _ (ZJ ..);simp only[bV,ef,aab]at p;have L:=AE (σ:=σ) D A.ids fn tmps (.code (.cond x a b)::k) .run p.1.1;by_cases z:∃t,(frm fn tmps (.code (.cond x a b)::k) .run).eval x=.bool t
  .obtain⟨t,z⟩:=z;(have y:(frm fn (tmps.map (ren σ)) (.code (.cond x a b)::k) .run).eval x=.bool t:=by rw[L,z];rfl);simp only[frm]at z y;exact d (.code (if t then a else b)::k) .run (by
    intro u f;rcases ZM.1 f with rfl|f
    .cases t
     .exact p.2
     exact p.1.2
    exact h.tail u f) (by simp[G,frm,KC,stepG.exec,z]) (by simp[G,frm,KC,stepG.exec,y])
  refine .inl ?_;simp only[G,frm,KC,stepG.exec];simp only[frm]at z;split
  .rename_i t y;exact absurd ⟨t,y⟩ z
  exact⟨_,_,_,rfl⟩
 |.run,.code (.exit id)::k,h,n,o,d=>
  cases E:exitTo id k with
  |some k'=>exact d (k') .run (λu f=>h.tail u (og E u f)) (by simp[G,frm,KC,stepG.exec,E]) (by simp[G,frm,KC,stepG.exec,E])
  |none=>exact .inl (by simp only[G,frm,KC,stepG.exec,E];exact⟨_,_,_,rfl⟩)
 |.run,.code (.region id ops false)::k,h,n,o,d=>
  have p:=h.items _ (ZJ ..);exact d (.inRegion ops (List.range ops.size)::k) .run (by
   intro u f;rcases ZM.1 f with rfl|f
   .exact p
   exact h.tail u f) (by simp[G,frm,KC,stepG.exec]) (by simp[G,frm,KC,stepG.exec])
 |.run,.code (.region id ops true)::k,h,n,o,d=>
  have p:=h.items _ (ZJ ..);have e:∀(m:Bool)(tm:Array Aq)(cs:List K0)(w:AK),KC P m (G (frm fn tm (.code (.region id ops true)::k) .run) cs) w=.go (G (frm fn tm (.inRegion ops (Region.schedule (P.follows .mixedOrders) ops (w.tape w.drawn (.order fn id)))::k) .run) cs) {w with drawn:=w.drawn+1} #[]:=by
   intro m tm cs w;simp[G,frm,KC,stepG.exec,choose,Sem.run,Question.forced,Question.cut]
  have C:wl.tape wl.drawn (.order fn id)=v.tape v.drawn (.order fn id):=by
   have:=n 0 (.order fn id) (by rw[e];unfold Win;intro _;simp);simpa using this
  refine .inr ⟨_,_,_,_,_,_,e _ _ _ _,e _ _ _ _,.inl ⟨fn,tmps,_,.run,l,l',h.todo (todo':=.inRegion ops (Region.schedule (P.follows .mixedOrders) ops (wl.tape wl.drawn (.order fn id)))::k) ?_,B,rfl,by rw[C]⟩,?_,sM⟩
  .intro u f;rcases ZM.1 f with rfl|f
   .exact p
   exact h.tail u f
  have r:=Ran.same (A.draw (wl.drawn+1) (v.drawn+1));exact⟨r.wr,⟨rfl,rfl,rfl,Zo _,ade _,λ_ _ _=>rfl⟩,rfl,show wl.drawn+1=wl.drawn+(v.drawn+1-v.drawn) by omega,show (wl:Nat)=(wl:Nat)+((v:Nat)-(v:Nat)) by omega⟩
 |.run,.inRegion ops (i::F)::k,h,n,o,d=>exact MH D h B A n o
 |.returning,todo,h,n,o,d=>exact Jy D h B A n o
 |.panicking N,todo,h,n,o,d=>exact Jz D h B A
end
end
section
open Go.Conc
variable{e:E1}{tb:Nat}
section
variable{P:E2}{good gl:Nat->Bool}{pf:Nat->Nat->Bool}{σ:Nat->Nat}{s0:Nat}{Keep M:Nat->Prop}{wl v:AK}{main:Bool}
structure Self(P:E2)(good gl:Nat->Bool)(pf:Nat->Nat->Bool)(s0:Nat)(Keep:Nat->Prop)(g:Ar)(wl:AK):Prop where
 live:Live P good gl pf id [c0] g g\/Og good c0 [] g g
 wr:∃M,WR good id s0 Keep M wl wl
def Ab(r:rq P good gl pf s0):∀(n:Nat)(fr:K0)(cs:List K0)(wl:AK)(fr':K0)(a:List K0)(w':AK),Self P good gl pf s0 Keep (G fr cs) wl->runN P n (lone fr cs wl)=.next (lone fr' a w')->
 ∃l:Nat->Ar×AK,l 0=(G fr cs,wl)/\(∀i,i<n->∃es,KC P true (l i).1 (l i).2=.go (l (i+1)).1 (l (i+1)).2 es)/\l n=(G fr' a,w')
 |0,fr,cs,wl,fr',a,w',_,h=>by
  simp[runN,lone]at h;obtain⟨rfl,rfl,rfl⟩:=h;exact⟨λ_=>(G fr cs,wl),rfl,λi s=>absurd s oM,rfl⟩
 |n+1,fr,cs,wl,fr',a,w',t,h=>by
  simp only[runN]at h;rcases t.live with y|z
  .obtain⟨M,A⟩:=t.wr;rcases vX (main:=true) r y A (λ_ _ _=>rfl) (λ_ _=>rfl)with⟨o,k,es,d⟩|⟨f,g,m,g',v',es,e1,e2,u,B,_⟩
   .have:step P (lone fr cs wl)=.ended o k:=ac4 (by show(KC P true (G fr cs) wl).bare=_;rw[d];rfl);rw[this]at h;cases h
   rw[e1]at e2;injection e2 with g1 g2 _;subst g1 g2;have j:∃b c,f=G b c:=by
    rcases u with⟨fn,w,todo,mode,l,l',_,_,p,_⟩|⟨x,_,p,_⟩|⟨F,p,_⟩<;>exact⟨_,_,p⟩
   obtain⟨b,c,rfl⟩:=j;have q:step P (lone fr cs wl)=.next (lone b c g):=step_lone_go (by show(KC P true (G fr cs) wl).bare=_;rw[e1];rfl);rw[q]at h;obtain⟨l,C,D,E⟩:=Ab r n b c g fr' a w' ⟨u,_,B.wr⟩ h;refine⟨λi=>if i=0 then(G fr cs,wl)else l (i-1),rfl,λi s=>?_,by simp[E]⟩;cases i with
   |zero=>
    refine⟨m,?_⟩;simp only[aba,Z8,Nat.one_ne_zero,acd,adk,C];exact e1
   |succ i=>
    obtain⟨es,d⟩:=D i oM;refine⟨es,?_⟩;simp only[Nat.succ_ne_zero,acd,abt];exact d
  obtain⟨o,k,es,d⟩:=wF (P:=P) z wl;have:step P (lone fr cs wl)=.ended o k:=ac4 (by show(KC P true (G fr cs) wl).bare=_;rw[d];rfl);rw[this]at h;cases h
def lY(tb m:Nat)(cells:Array Aq)(e:E1)(T:Nat->Question->Nat)(os:Os)(out:Array (Nat×ByteArray)):AK:=
 {heap:=(Array.replicate tb (.cells #[] 0)).push (.cells cells e (0,cells.size))++Array.replicate m (.cells #[] 0),tape:=T,drawn:=0,os,output:=out}
def gv{m:Nat}{cells:Array Aq}{T:Nat->Question->Nat}{os:Os}{out:Array (Nat×ByteArray)}:(lY tb m cells e T os out)=tb+1+m:=by simp[lY]
def tD{m:Nat}{cells:Array Aq}{T:Nat->Question->Nat}{b:Os}{a:Array (Nat×ByteArray)}:(lY tb m cells e T b a).heap[tb]?=some (.cells cells e (0,cells.size)):=by
 show(Array.push _ _++_)[tb]?=_;rw[ad8 sM,aa6];simp
def qa{m:Nat}{cells:Array Aq}{T:Nat->Question->Nat}{k:Os}{f:Array (Nat×ByteArray)}{b:Nat}{o:Obj}(h:(lY tb m cells e T k f).heap[b]?=some o):
 (b=tb/\o=.cells cells e (0,cells.size))\/(b<tb+1+m/\o=.cells #[] 0):=by
 have c:=(Zq.1 h).1;rw[gv]at c;by_cases g:b=tb
 .subst g;rw[tD]at h;exact .inl ⟨rfl,(ZO h).symm⟩
 refine .inr ⟨c,?_⟩;have a:(Array.push _ _++_)[b]?=some o:=h;by_cases i:b<tb+1
 .rw[ad8 (by simpa using i)]at a;rcases gK a with⟨d,_⟩|⟨d,j⟩
  .simp at d;exact absurd d g
  simp only[Array.size_replicate]at d;rw[aei,ZC d]at j;exact(ZO j).symm
 rw[Array.getElem?_append_right (by simpa using adw i)]at a;rw[aei]at a;split at a
 .exact(ZO a).symm
 cases a
def Ac{m:Nat}{cells:Array Aq}{T:Nat->Question->Nat}{j:Os}{a:Array (Nat×ByteArray)}(k:∀c,c∈cells->Nv good c)(hσ:∀b,b<tb+1+m->σ b=b)
 {v:AK}{fz:Nat×Nat}(i:v.heap[tb]?=some (.cells cells e fz)):WR good σ (tb+1+m) (λb=>b=tb) (λ_=>False) (lY tb m cells e T j a) v:=by
 refine⟨?_,?_,?_,hσ,?_,by rw[gv];exact Zo _,λ_ h=>h.elim,?_⟩
 .intro b o h;rcases qa h with⟨_,rfl⟩|⟨_,rfl⟩
  .exact⟨_,_,_,rfl,k⟩
  exact⟨_,_,_,rfl,sM⟩
 .intro b cs l d h n f;rcases qa h with⟨rfl,g⟩|⟨_,g⟩
  .cases g;exact⟨rfl,rfl,fz,i⟩
  cases g;simp at f
 .intro b cs l d h p;rcases qa h with⟨rfl,_⟩|⟨h,_⟩<;>omega
 .intro b r s q;rw[gv]at q;omega
 rintro b rfl;exact⟨(Zq.1 i).1,id⟩
def GP{R:AK->AK->Prop}{D:(Nat->Prop)->AK->AK->Array Nc->Prop}{m:Nat}(hC:rq P good gl pf (tb+1+m)){f:FuncId}(hf:good f){args:Array Aq}(ha:∀a,a∈args->Nv good a)
 {cells:Array Aq}(O:∀c,c∈cells->Nv good c){Rv:Aq->Prop}
 (I:∀T os out,Bf P f args (lY tb m cells e T os out) λx _=>∃y,x=.returned y/\Rv y)
 (hR:∀w v,R w v->∀fz,w.heap[tb]?=some (.cells cells e fz)->∃d,v.heap[tb]?=some (.cells cells e d))
 {p:AK}{Q:Nat×Nat}(S:p.heap[tb]?=some (.cells cells e Q))
 (hD:∀M v v' es,Does M v v'->(∀x,x∈es->ov (bP M v v') (λb=>b=tb) x)->D M v v' es)(c:K0)(cs:List K0)
 (J:∃fn b,P.funcs[f]?=some fn/\fn.body=some b):
 an P main R D (λg _ _=>∃x,Rv x/\Nv good x/\g=G (c.finish x) cs) (G (Frame.enter P f args .normal) (c::cs)) (λ_=>False) p:=by
 obtain⟨fn,j,u,k⟩:=J;have A:=hC.ok _ fn hf u;unfold Gi at A;rw[k]at A;simp only[aab]at A;have U:Frame.enter P f args .normal=frm f (args++Array.replicate (fn.ntmps-args.size) C0) [.code j] .run:=by
  simp[Frame.enter,u,k,frm]
 have F:∀x,x∈args++Array.replicate (fn.ntmps-args.size) C0->Nv good x:=by
  intro x B;rcases aby.1 B with B|B
  .exact ha x B
  rw[(acw.1 B).2];exact je
 have V:∀σ,(args++Array.replicate (fn.ntmps-args.size) C0).map (ren σ)=args++Array.replicate (fn.ntmps-args.size) C0:=by
  intro σ;conv=>rhs;rw[<-Array.map_id (args++Array.replicate (fn.ntmps-args.size) C0)]
  apply acS;intro x B;exact lP (F x B)
 have W:∀it,it∈[Item.code j]->bV P good gl pf f it:=by
  intro it K;rcases ZM.1 K with rfl|K
  .exact A.1
  cases K
 have hFI:FI P good gl pf f (args++Array.replicate (fn.ntmps-args.size) C0) [.code j]:=by
  refine⟨hf,W,λt _=>?_⟩;rw[aay];cases hq:(args++Array.replicate (fn.ntmps-args.size) C0)[t]? with
  |none=>exact je
  |some x=>exact F x (ZS hq)
 have q:∀σ(i:List K0),Live P good gl pf σ i (G (Frame.enter P f args .normal) [c0]) (G (Frame.enter P f args .normal) i):=λσ i=>
  ⟨f,_,[.code j],.run,[],[],hFI,.nil,by rw[U];rfl,by rw[V,U];rfl⟩
 let Sim:(Nat->Nat)->Ar->AK->Ar->(Nat->Prop)->AK->Prop:=λσ gl' wl g M v=>
  (Live P good gl pf σ (c::cs) gl' g/\WR good σ (tb+1+m) (λb=>b=tb) M wl v/\∃fz,v.heap[tb]?=some (.cells cells e fz))\/Og good c cs gl' g
 let Fin:Ar->AK->Prop:=λgl' _=>∃x,Rv x/\gl'=G (c0.finish x) []
 refine qX (P:=P) Sim Fin (gl0:=G (Frame.enter P f args .normal) [c0]) (wl0:=λT=>lY tb m cells e T p.os p.output) ?_ ?_ ?_ ?_ ?_ ?_
 .
  intro T;obtain⟨x,w',fr,⟨y,rfl,hy⟩,C,hfr,E⟩:=I T p.os p.output [c0];obtain⟨n,H⟩:Steps P (lone (Frame.enter P f args .normal) [c0] (lY tb m cells e T p.os p.output)) (lone fr [c0] w'):=C;have L:=ab9 (cs:=[]) (c:=c0) E;have r:runN P (n+1) (lone (Frame.enter P f args .normal) [c0] (lY tb m cells e T p.os p.output))=.next (lone (c0.finish y) [] w'):=by
   rw[runN_add,H];simp only[runN,L]
  obtain⟨l,l0,ls,ln⟩:=Ab (Keep:=λb=>b=tb) hC (n+1) _ _ _ _ _ _ ⟨.inl (q id [c0]),_,Ac (v:=lY tb m cells e T p.os p.output) O (λ_ _=>rfl) (fz:=(0,cells.size)) tD⟩ r;exact⟨n+1,l,l0,ls,y,hy,by rw[ln]⟩
 .intro T;exact⟨rfl,rfl,by rw[gv,gv]⟩
 .intro T σ hσ;exact .inl ⟨q σ _,Ac O (λb z=>hσ b (by rw[gv];exact z)) S,Q,S⟩
 .rintro σ gl' wl g M w v (⟨u,k,fz,Z⟩|h) s
  .obtain⟨d,h4⟩:=hR w v s.more fz Z;refine .inl ⟨u,⟨k.cells,?_,?_,k.ids,k.inj,k.base,λb z=>ZB (k.mb b z) s.size,λb z=>⟨ZB (k.kb b z).1 s.size,(k.kb b z).2⟩⟩,d,h4⟩
   .intro b i e' d z hlt hne;obtain⟨X,N,fz2,k3⟩:=k.old b i e' d z hlt hne;subst N;rw[Z]at k3;cases k3;exact⟨X,rfl,_,h4⟩
   intro b i e' d z hge;obtain⟨X,N,k3⟩:=k.own b i e' d z hge;exact⟨X,N,by rw[s.mine _ N];exact k3⟩
  exact .inr h
 .rintro σ gl' wl g M w (⟨u,_⟩|h) ⟨x,B,rfl⟩
  .exfalso;obtain⟨fn',tmps,todo,mode,l,l',_,_,Z,_⟩:=u;have:=aal (λg=>g.callers) Z;simp[G]at this
  rcases h with⟨y,hy,u,k⟩|⟨ch,u,_⟩
  .have:x=y:=by
    have:=aal (λg:Ar=>g.frame.tmps) u;simpa[G,c0,Frame.finish]using this
   subst this;exact⟨x,B,hy,k⟩
  exfalso;have:=aal (λg:Ar=>g.frame.mode) u;simp[G,c0,Frame.finish]at this
 intro σ gl' wl g M v gl'' wl' esl hS hstep ht hs;rcases hS with⟨hl,hw,fz,hv⟩|hd
 .have r:g.status=.running:=by
   obtain⟨_,_,_,_,_,_,_,_,_,rfl⟩:=hl;rfl
  refine⟨r,?_⟩;rcases vX hC hl hw ht hs with⟨o,w1,es,he⟩|⟨g1,w1,e1,g',v',es,X,N,H,s,hev⟩
  .rw[he]at hstep;cases hstep
  rw[X]at hstep;injection hstep with q1 q2 _;subst q1 q2;have Y:reg g':=by
   rcases H with⟨_,_,_,_,_,_,_,_,_,rfl⟩|⟨_,_,_,rfl⟩|⟨_,_,h⟩
   .rfl
   .rfl
   exact h
  refine⟨g',v',es,N,Y,hD _ _ _ _ s.does hev,?_,s.ltape,s.ldrawn,s.lsize⟩;rcases H with H|H
  .refine .inl ⟨H,s.wr,fz,?_⟩;have hk:=hw.kb tb rfl;rw[s.does.rest tb hk.2 hk.1];exact hv
  exact .inr H
 obtain⟨o,w1,es,he⟩:=wF (P:=P) hd wl;rw[he]at hstep;cases hstep
end
end
section
open Go.Conc
variable{a b c:Nat}
def J4:List Nat:=[29,42,44,61,130,131,132,133,134,135,136,137,138,139,140,141,142,143,144,145,146,147,148,149,150,151,152,153,154,155,156,157,158,159,160,161,162,163,164,165,166]
def tK(f:Nat):Bool:=J4.contains f
def pfL:List (Nat×List Nat):=[(29,[1,2,3,4,6,10,16,21,23,27,34]),(44,[2,4,6,7,12,13,15,17,21,25,37,40,45,48,53,57,74,78,83,87]),(61,[0]),(130,[1,2,5,8,18,20,28,34,37,40,43]),(131,[1,2,3,6]),(132,[1,2,4,5,7,11,14,29,33,41,45,51,54,58]),(133,[1,2,4,5,6,7,9,11,15,18,33,40,44,51,57,60,64,67,68,73,75,78,81,87]),(134,[1,2,3,5,8,12,26,30,34,36,38,43,50,53,56,60,63]),(135,[1,2,4,10,14,22,25,29]),(136,[1,2,4,5,7,13,18,27,33,34,39,46]),(137,[1,2,3,7,14,17,20,29,36,38,47]),(138,[1,2,3,4,5,6,9,14,18,28,31,42]),(139,[1,2]),(140,[3,4,6,7,12,17,24,29,35,37,41]),(141,[2,5,28,34,35]),(142,[2,3,4,5,6,7,10,11,15,17,20,22]),(143,[2,4,10,11,12,13,16,27,42,48,55,67,84]),(144,[2,4,16,22]),(145,[2,4,5,27,32,41,45,52]),(146,[1,2,4,6,11,18,25,30,32,37]),(147,[1]),(148,[2,3,4,10,15,19,21,25,27,34,38,42,46,47,48,50,56,62,63,68,70,72,77,80,86,87,89,91,94,96,100,101,103,105,109,111,116,117,119]),(151,[2,3,4,5,20,23,33,51,59]),(152,[1,12,18]),(153,[3,8,10,17,23,26,33,40,46,49,52]),(157,[1,2,4,5,7,14,26,29,32,45,48,49,51]),(158,[2,3,5]),(159,[2,3,9,11]),(160,[2,4,6,33,38,50,54,61]),(161,[2,3,4,15,18,24]),(162,[2,3,4,16,19,25]),(165,[2,7])]
def pfF(f t:Nat):Bool:=match pfL.lookup f with
 |some l=>l.contains t
 |none=>false
def glF(g:Nat):Bool:=decide (g<3)
def Ny(P:E2):Bool:=J4.all λf=>match P.funcs[f]? with
 |some fn=>Gi P tK glF pfF f fn&&!(fn.name== "runtime.NumGoroutine")&&(fn.body.isSome||f==164||f==166)
 |none=>false
def KB:Ny prog:=by kernel_rfl
def UG:rq prog tK glF pfF (0+1+2):=by
 have h:=acb.1 (show J4.all _ from KB);have one:∀f,tK f->∃fn,prog.funcs[f]?=some fn/\Gi prog tK glF pfF f fn/\(fn.name== "runtime.NumGoroutine")=false/\(fn.body.isSome\/f=164\/f=166):=by
  intro f i;have:=h f (by simpa[tK]using i);split at this
  .rename_i fn e;simp only[aab,abi,aef,abH]at this;exact⟨fn,e,this.1.1,this.1.2,this.2.elim (λx=>x.elim .inl λx=>.inr (.inl x)) λx=>.inr (.inr x)⟩
  cases this
 refine⟨λf i=>?_,λf fn i e=>?_,λg l=>by simpa[glF]using l⟩
 .obtain⟨fn,d,_,j,k⟩:=one f i;refine⟨fn,d,j,?_⟩;rcases k with k|rfl|rfl
  .exact .inl k
  .rw[func164]at d;obtain rfl:=ZO d;exact .inr ⟨rfl,by kernel_rfl,add64Entry,by kernel_rfl,.inl rfl⟩
  rw[func166]at d;obtain rfl:=ZO d;exact .inr ⟨rfl,by kernel_rfl,sub64Entry,by kernel_rfl,.inr rfl⟩
 obtain⟨fn',d,j,_⟩:=one f i;rw[e]at d;obtain rfl:=ZO d;exact j
def yO:Array Aq:=#[iI 0,.nilFunc,iI (cU 1),.func (.func (ki 1)) #[] #[],iI (cU 2),.func (.func (ki 2)) #[] #[],iI (cU 3),.func (.func (ki 3)) #[] #[],iI (cU 4),.func (.func (ki 4)) #[] #[],
 iI (cU 5),.func (.func (ki 5)) #[] #[],iI (cU 6),.func (.func (ki 6)) #[] #[],iI (cU 7),.func (.func (ki 7)) #[] #[],iI (cU 8),.func (.func (ki 8)) #[] #[],iI (cU 9),.func (.func (ki 9)) #[] #[],iI (cU 10),.func (.func (ki 10)) #[] #[]]
def Lw:∀c,c∈yO->Nv tK c:=by
 intro c d;simp only[yO,aaX,ZM,ZG,aaV]at d;rcases d with rfl|rfl|rfl|rfl|rfl|rfl|rfl|rfl|rfl|rfl|rfl|rfl|rfl|rfl|rfl|rfl|rfl|rfl|rfl|rfl|rfl|rfl<;>first|exact .int _ _|exact .nilFunc|exact .func _ dC
def E7:Nat:=88
def ga(w:AK):Prop:=∃fz,w.heap[0]?=some (.cells yO E7 fz)
def kz{w:AK}(h:ga w):aT w:=by
 obtain⟨fz,h⟩:=h;intro op e f;have d:∀i,w (aD 0 i)=yO[i]?:=λi=>by simp[World.cell?,h]
 rw[d,d];rcases(show op=1\/op=2\/op=3\/op=4\/op=5\/op=6\/op=7\/op=8\/op=9\/op=10 by omega)with rfl|rfl|rfl|rfl|rfl|rfl|rfl|rfl|rfl|rfl<;>exact⟨rfl,rfl⟩
def doF(o m a b c:Nat):Nat×Nat×Bool:=if o=0\/11<=o\/5<=m then(0,0,true)else if o=10 then(0,0,false)else((doS o m a b c).1,(doS o m a b c).2,false)
def uE{o m:Nat}(l:o<256)(n:m<256)(e:U64 a)(f:U64 b)(g:U64 c)(W:AK)(h:aT W):
 Bf prog 29 #[REC o m a b c] W (ai (doF o m a b c).1 (doF o m a b c).2.1 (doF o m a b c).2.2 W):=by
 unfold doF;by_cases i:o=0
 .subst i;rw[ZC (.inl rfl)];exact ER 0 m a b c dC W
 by_cases j:11<=o
 .rw[ZC (.inr (.inl j))];exact EU o m a b c j l W
 by_cases d:5<=m
 .rw[ZC (.inr (.inr d))];exact ET o m a b c i oM d W
 rw[Zr oM];by_cases k:o=10
 .subst k;rw[ZC rfl];exact Bq m a b c d e f g W h
 rw[Zr k];exact Q2 oM oM oM e f g W h
def Pv(o m a b c:Nat):Nv tK (REC o m a b c):=by
 unfold REC;refine .agg _ λx d=>?_;simp only[aaX,ZM,ZG,aaV]at d;rcases d with rfl|rfl|rfl|rfl|rfl<;>exact .int _ _
def Nj{main:Bool}{R:AK->AK->Prop}{D:(Nat->Prop)->AK->AK->Array Nc->Prop}{o m:Nat}(p:o<256)(q:m<256)(r:U64 a)(s:U64 b)(t:U64 c)
 (u:∀w v,R w v->ga w->ga v){l:AK}(d:ga l)(z:∀M v v' es,Does M v v'->(∀x,x∈es->ov (bP M v v') (λb=>b=0) x)->D M v v' es)(i:K0)(cs:List K0):
 an prog main R D (λg _ _=>g=G (i.finish (nE (doF o m a b c).1 (doF o m a b c).2.1 (doF o m a b c).2.2)) cs) (G (Frame.enter prog 29 #[REC o m a b c] .normal) (i::cs)) (λ_=>False) l:=by
 obtain⟨A,B⟩:=d;refine(GP (P:=prog) (tb:=0) (m:=2) (cells:=yO) (e:=E7) (Rv:=λy=>y=nE (doF o m a b c).1 (doF o m a b c).2.1 (doF o m a b c).2.2) UG (f:=29) dC (args:=#[REC o m a b c]) (by
  intro x n;simp only[aaX,aag]at n;subst n;exact Pv o m a b c) Lw (λT C j=>?_) (λw v E fz F=>?_) B z i cs ⟨_,_,func29,rfl⟩).mono (λ_ _ h=>h) (λ_ _ _ _ h=>h) ?_
 .have H:ga (lY 0 2 yO E7 T C j):=⟨_,tD⟩;exact(uE p q r s t _ (kz H)).mono λe w' h=>⟨_,h.1,rfl⟩
 .obtain⟨k,h⟩:=u w v E ⟨fz,F⟩;exact⟨k,h⟩
 rintro g M w⟨x,rfl,_,rfl⟩;rfl
end
end Go.Proofs.YtldmbneckcjonaaDoor
