/- A part of the proof. -/
import Derived.Test.YtldmbneckcjonaaDoorRows
import Derived.Test.YtldmbneckcjonaaDoorK5
set_option linter.defProp false
set_option linter.unusedVariables false
set_option linter.unusedSimpArgs false
set_option maxRecDepth 100000
set_option maxHeartbeats 8000000
noncomputable section
namespace Go.Proofs.YtldmbneckcjonaaDoor
open Go renaming World->AK,Value->Aq,Goroutine->Ar,Calls->Bf,undef->C0,Addr->Es,TypeId->E1,Program->E2,stepG->KC,Frame->K0,execOp->Lk,bits->Na,Event->Nc
open Go.RowKit renaming Below->Np,wrap64->Nq
open Go.Proofs.Tryd
section
variable{K:Int}{n:Nat}{ng:Bool}
def EB{m:Nat}(hK:K<=0):il m ng n K=n*2^(-K).toNat:=by unfold il;rw[ZC hK]
def pt{m k:Nat}(a:0<k):n/2^k<=il m ng n k/\il m ng n k<=n/2^k+1:=by
 unfold il;rw[Zr oM,aaB];split<;>omega
def tn{a b:Nat}:2^a<=2^b↔a<=b:=Nat.pow_le_pow_iff_right dC
def G2{m:Nat}(h:n≠0):2^52<=il m ng n ((bl n:Int)-53)/\il m ng n ((bl n:Int)-53)<=2^53:=by
 have a:=fB h;have b:=aN n;have g:=ey.2 h;by_cases hK:(bl n:Int)-53<=0
 .rw[EB hK];have e:(-((bl n:Int)-53)).toNat=53-bl n:=oM;rw[e];constructor
  .have:=Z9 (2^(53-bl n)) a;rw[<-ZD,show bl n-1+(53-bl n)=52 from by omega]at this;exact this
  have:=Z9 (2^(53-bl n)) (abw b);rw[<-ZD,show bl n+(53-bl n)=53 from by omega]at this;exact this
 obtain⟨k,f⟩:∃k,bl n=k+53:=⟨bl n-53,oM⟩;have c:0<k:=oM;rw[f]at a b⊢;rw[show((k+53:Nat):Int)-53=(k:Int)from by omega];obtain⟨i,j⟩:=pt (m:=m) (n:=n) (ng:=ng) c;have d:=Zy k;have d1:2^52<=n/2^k:=by
  rw[aa9 d,<-ZD];rw[show k+53-1=52+k from by omega]at a;exact a
 have d2:n/2^k<2^53:=by
  rw[Z4 d,<-ZD];rw[show k+53=53+k from by omega]at b;exact b
 omega
def De{m j:Nat}(h:(bl n:Int)-K<=j):il m ng n K<=2^j:=by
 have a:=aN n;by_cases hK:K<=0
 .rw[EB hK];have:=Z9 (2^(-K).toNat) (abw a);rw[<-ZD]at this;exact Zz this (tn.2 oM)
 obtain⟨k,rfl⟩:∃k:Nat,K=k:=⟨K.toNat,oM⟩;obtain⟨_,c⟩:=pt (m:=m) (n:=n) (ng:=ng) (show 0<k by omega);have b:=Zy k;have d2:n/2^k<2^j:=by
  rw[Z4 b,<-ZD];exact ZB a (tn.2 oM)
 omega
def E3(m:Nat)(ng:Bool)(n:Nat)(e:Int):Int:=(bl (il m ng n ((bl n:Int)-53)):Int)+e+bl n-54
@[irreducible]def nY(m:Nat)(ng:Bool)(n:Nat)(e:Int):Nat×Nat:=
 if 1024<=E3 m ng n e then(aF ng+(if m=2\/(m=3/\ng)\/(m=4/\ng=false)then 9218868437227405311 else 9218868437227405312),5)
 else if E3 m ng n e< -1022 then(aF ng+il m ng n (-1074-e),if tX n (-1074-e)then 3 else 0)
 else(aF ng+(E3 m ng n e+1023).toNat*4503599627370496+((if bl (il m ng n ((bl n:Int)-53))=54 then il m ng n ((bl n:Int)-53)/2 else il m ng n ((bl n:Int)-53))-4503599627370496),if tX n ((bl n:Int)-53)then 1 else 0)
end
section
open Go.RowKit
def tE(c:Bool)(a b:Nat):((if c then a else b:Nat):Int)=if c then(a:Int)else(b:Int):=by cases c<;>rfl
def Cb(ng:Bool)(A:Option Es)(b n m:Nat)(e:Int)(w:AK)(o:IsL w A (nd n) n)(v:n≠0)(s:m<5)(H:bl n<=40000)(x:-40000<=e)(C:e<=40000):
 Bf prog 95 #[aO ng A n b e,iI m] w λp w'=>p=.returned (.tuple #[iU (nY m ng n e).1,iI (nY m ng n e).2])/\Np w w w':=by
 have d:Sm n:=by unfold Sm;omega
 obtain⟨D,I⟩:=G2 (m:=m) (ng:=ng) v;have J:aF ng=0\/aF ng=9223372036854775808:=by cases ng;exact .inl rfl;exact .inr rfl
 have q:Hid (∀W,IsL W A (nd n) n->Bf prog 110 #[.slice A (nd n) b,iI ((bl n:Int)-53),.bool ng,iI m] W (cQ (il m ng n ((bl n:Int)-53)) (tX n ((bl n:Int)-53)) W)):=
  λW g=>zq A b n _ m ng W g s d oM oM
 have L:E3 m ng n e=(bl (il m ng n ((bl n:Int)-53)):Int)+e+bl n-54:=rfl;generalize E:E3 m ng n e=T at*;unfold nY;rw[E];have F:53<=bl (il m ng n ((bl n:Int)-53))/\bl (il m ng n ((bl n:Int)-53))<=54:=⟨jz.2 D,br.2 oM⟩;generalize il m ng n ((bl n:Int)-53)=y at*;generalize tX n ((bl n:Int)-53)=a at*;have i:Mod y:=by unfold Mod;omega
 have t1:IntKind.i64.wrap ((bl y:Int)+e)=(bl y:Int)+e:=by rw[ZZ];omega
 have t2:IntKind.i64.wrap ((bl y:Int)+e+bl n)=(bl y:Int)+e+bl n:=by rw[ZZ];omega
 have t3:IntKind.i64.wrap ((bl y:Int)+e+bl n-54)=T:=by rw[ZZ];omega
 have r:IntKind.i64.wrap ((bl n:Int)-53)=(bl n:Int)-53:=by rw[ZZ];omega
 by_cases f:1024<=T
 .rw[ZC f];exact Ca ng A b n m y a e _ T w o d i r q t1 t2 t3 f s _ rfl
 rw[Zr f];by_cases k:T< -1022
 .rw[ZC k];have M:=De (m:=m) (n:=n) (ng:=ng) (K:=-1074-e) (j:=52) oM;have t:Hid (∀W,IsL W A (nd n) n->Bf prog 110 #[.slice A (nd n) b,iI (-1074-e),.bool ng,iI m] W (cQ (il m ng n (-1074-e)) (tX n (-1074-e)) W)):=
   λW g=>zq A b n _ m ng W g s d oM oM
  generalize il m ng n (-1074-e)=z at*;have:=B9 ng A b n m y a e _ T w o d i r q t1 t2 t3 f k z (tX n (-1074-e)) (-1074-e) (by rw[ZZ];omega) t (show z<4611686018427387904 by omega) z (by rw[ZV];omega) (aF ng+z) (by rw[ZV];omega);refine this.mono λp w' h=>⟨?_,h.2⟩;rw[h.1];show _=Ending.returned (.tuple #[_,iI ((if tX n (-1074-e)then 3 else 0:Nat):Int)]);rw[tE];rfl
 rw[Zr k];have l:y<4611686018427387904:=oM;by_cases u:bl y=54
 .rw[ZC u];have G:2^53<=y:=jz.1 oM;have t:Hid (∀W B c,IsL W B (nd y) y->Bf prog 112 #[.slice B (nd y) c,iI 1] W (cQ (y/2) (decide (y%2=0)) W)):=λW B c g=>by
   have:=pW B c y 1 W g i oM;rw[acA]at this;exact this
  have:=uK ng A b n m y a e _ T w o d i r q t1 t2 t3 f k (by rw[u];rfl) (y/2) _ (show y/2<4611686018427387904 by omega) t (aF ng+(T+1023).toNat*4503599627370496+(y/2-4503599627370496)) (by show _=_;unfold Nq;rw[ZV,ZV,ZV];omega);refine this.mono λp w' h=>⟨?_,h.2⟩;rw[h.1];show _=Ending.returned (.tuple #[_,iI ((if a then 1 else 0:Nat):Int)]);rw[tE];rfl
 rw[Zr u];have:=zk ng A b n m y a e _ T w o d i r q t1 t2 t3 f k (by rw[Zs];omega) l (aF ng+(T+1023).toNat*4503599627370496+(y-4503599627370496)) (by show _=_;unfold Nq;rw[ZV,ZV,ZV];omega);refine this.mono λp w' h=>⟨?_,h.2⟩;rw[h.1];show _=Ending.returned (.tuple #[_,iI ((if a then 1 else 0:Nat):Int)]);rw[tE];rfl
end
section
open Go.RowKit
variable{E:Int}{a b k:Nat}{n1 n2:Bool}
def QU(p:Nat×Nat)(w:AK)(e:Ending)(w':AK):Prop:=e=.returned (RV p.1 p.2 false)/\Np w w w'
def jc(n1 n2:Bool)(a b:Nat)(e1 e2:Int):Bool×Nat×Int:=if e2<e1 then gP n1 n2 (a*2^(e1-e2).toNat) b e2 else gP n1 n2 a (b*2^(e2-e1).toNat) e1
def wL{d:Nat}(c:bl a<=k):bl (a*2^d)<=k+d+1:=by have:=b9 a (2^d);have:=jN d;omega
def zh(n1 n2:Bool)(A B:Option Es)(c cb a b:Nat)(e1 e2:Int)(w:AK)(g:IsL w A (nd a) a)(i:IsL w B (nd b) b)(j:bl a<=200)(l:bl b<=200)(m:-5000<=e1)(n:e1<=5000)(o:-5000<=e2)(p:e2<=5000):
 Bf prog 69 #[aO n1 A a c e1,aO n2 B b cb e2] w (aP (jc n1 n2 a b e1 e2).1 (jc n1 n2 a b e1 e2).2.1 (jc n1 n2 a b e1 e2).2.2 w):=by
 have e:Mod a:=by unfold Mod;omega
 have f:Mod b:=by unfold Mod;omega
 unfold jc;by_cases h:e2<e1
 .rw[ZC h];have l1:=wL (d:=(e1-e2).toNat) j;have l2:=eH (a*2^(e1-e2).toNat) b;exact Ie n1 n2 A B c cb a b _ b (e1-e2).toNat e1 e2 e2 w g i e f (by unfold Mod;omega) f (by unfold Mod;omega) (.inl ⟨h,by unfold Nq;omega,rfl,rfl,rfl⟩)
 rw[Zr h];have l1:=wL (d:=(e2-e1).toNat) l;have l2:=eH a (b*2^(e2-e1).toNat);exact Ie n1 n2 A B c cb a b a _ (e2-e1).toNat e1 e2 e1 w g i e f e (by unfold Mod;omega) (by unfold Mod;omega) (.inr ⟨h,by unfold Nq;omega,rfl,rfl,rfl⟩)
def DD(c:bl a<=k)(d:bl b<=k):bl (gP n1 n2 a b E).2.1<=k+1:=by
 have e:=eH a b;have f:=e7 (adv a b);have g:=e7 (adv b a);unfold gP;split
 .show bl (a+b)<=_;omega
 split
 .show bl 0<=_;rw[gE];omega
 split
 .show bl (a-b)<=_;omega
 show bl (b-a)<=_;omega
def HT:(gP n1 n2 a b E).2.2=E\/(gP n1 n2 a b E).2.2=0:=by
 unfold gP;split;exact .inl rfl;split;exact .inr rfl;split;exact .inl rfl;exact .inl rfl
def BR{e1 e2:Int}(c:bl a<=200)(e:bl b<=200)(f:-5000<=e1)(g:e1<=5000)(i:-5000<=e2)(j:e2<=5000):
 bl (jc n1 n2 a b e1 e2).2.1<=40000/\-40000<=(jc n1 n2 a b e1 e2).2.2/\(jc n1 n2 a b e1 e2).2.2<=40000:=by
 unfold jc;split
 .have l1:=wL (d:=(e1-e2).toNat) c;have:=DD (n1:=n1) (n2:=n2) (E:=e2) (k:=20000) (show bl (a*2^(e1-e2).toNat)<=20000 by omega) (show bl b<=20000 by omega);rcases HT (n1:=n1) (n2:=n2) (a:=a*2^(e1-e2).toNat) (b:=b) (E:=e2)with h|h<;>rw[h]<;>omega
 have l1:=wL (d:=(e2-e1).toNat) e;have:=DD (n1:=n1) (n2:=n2) (E:=e1) (k:=20000) (show bl a<=20000 by omega) (show bl (b*2^(e2-e1).toNat)<=20000 by omega);rcases HT (n1:=n1) (n2:=n2) (a:=a) (b:=b*2^(e2-e1).toNat) (E:=e1)with h|h<;>rw[h]<;>omega
abbrev nF:Obj:=.cells #[iU 0,iI 0,.bool false] 66
def qT(ng:Bool)(A:Option Es)(j n m:Nat)(e:Int)(w:AK)(s:IsL w A (nd n) n)(o:n≠0)(p:m<5)(q:bl n<=40000)(h:-40000<=e)(i:e<=40000):
 Bf prog 65 #[aO ng A n j e,iI m] w (QU (nY m ng n e) w):=by
 have t:=Zp (λ(W:AK)(u:IsL W A (nd n) n)=>Cb ng A j n m e W u o p q h i);generalize nY m ng n e=r at*;obtain⟨b,f⟩:=r;have d:Np w w ((aC w #[.bool ng,.slice A (nd n) j,iI e] 119).alloc nF):=((Zx _ w).alloc sM _).alloc sM _;have l:=s.below (Zo _) d;clear o p q h i;go_enter func65,ntmps65
 go_wp2_with fail
 refine gB (t.out _ l) λg c=>?_;have x:=d.trans (c.mono d.size);have dB:cF g (w+1) 0 (iU 0):=cK c;have nf:fZ g (w+1) 0:=fK c;have dA:cF g (w+1) 1 (iI 0):=cK c;have mZ:fZ g (w+1) 1:=fK c;have dz:cF g (w+1) 2 (.bool false):=cK c;have mY:fZ g (w+1) 2:=fK c
 go_wp2_with fail
 refine aaT (v:=RV b f false) ?_ rfl ⟨rfl,?_⟩
 .simp[results,results65,go_sem, *]
 exact cB
end
section
open Go.RowKit
def IA(n1 n2 p:Bool)(A B:Option Es)(j cb a b N m q r:Nat)(e1 e2 Es:Int)(w:AK)(s:IsL w A (nd a) a)(t:IsL w B (nd b) b)
 (S:Hid (∀W,IsL W A (nd a) a->IsL W B (nd b) b->Bf prog 69 #[aO n1 A a j e1,aO n2 B b cb e2] W (aP p N Es W)))(E:decide (0<nd N))
 (F:Hid (∀W X c,IsL W X (nd N) N->Bf prog 65 #[aO p X N c Es,iI m] W (ah q r false W))):
 Bf prog 63 #[aO n1 A a j e1,aO n2 B b cb e2,iI m] w (ah q r false w):=by
 have d:=Zx ((aC (aC w #[.bool n1,.slice A (nd a) j,iI e1] 119) #[.bool n2,.slice B (nd b) cb,iI e2] 119).alloc nF) ((aC (aC w #[.bool n1,.slice A (nd a) j,iI e1] 119) #[.bool n2,.slice B (nd b) cb,iI e2] 119).alloc nF);have h:Np w w ((aC (aC w #[.bool n1,.slice A (nd a) j,iI e1] 119) #[.bool n2,.slice B (nd b) cb,iI e2] 119).alloc nF):=(((Zx _ w).alloc sM _).alloc sM _).alloc sO _;have l:=s.below (Zo _) h;have n:=t.below (Zo _) h;go_enter func63,ntmps63
 go_wp2_with fail
 refine(S.out _ l n).mono ?_;rintro e f⟨X,c,rfl,u,v,x,i⟩;replace d:=d.trans (i.mono d.size);have G:(w:Nat)+3<=f:=by have:=i.size;simp at this;omega
 have y:(w:Nat)<f:=oM;have z:(w:Nat)+1<f:=oM;have C:(w:Nat)+1+1<f:=oM;clear i S s t l n;have dB:f (aD w 0)=some (.bool n1):=cK d;have dA:f (aD w 1)=some (.slice A (nd a) j):=cK d;have dz:f (aD w 2)=iI e1:=cK d;have iK:f (aD (w+1) 0)=some (.bool n2):=cK d;have iJ:f (aD (w+1) 1)=some (.slice B (nd b) cb):=cK d;have iG:f (aD (w+1) 2)=iI e2:=cK d;have iF:f (aD (w+1+1) 0)=iU 0:=cK d;have iQ:f.frozen? (aD (w+1+1) 0)=false:=fK d;have iE:f (aD (w+1+1) 1)=iI 0:=cK d;have iP:f.frozen? (aD (w+1+1) 1)=false:=fK d;have iD:f (aD (w+1+1) 2)=some (.bool false):=cK d;have iO:f.frozen? (aD (w+1+1) 2)=false:=fK d;have D:=h.trans (d.mono h.size)
 go_wp2_with fail
 refine(F.out _ _ _ (x.below (Zo _) ?_)).mono ?_
 .exact cB
 rintro e k⟨rfl,g⟩;have o:=g.size;simp at o;have Ye:k (aD (w+1+1) 0)=iU 0:=by rw[g.cell (by first|(simp;done)|(simp;omega))];go_simp;done
 have Yd:k (aD (w+1+1) 1)=iI 0:=by rw[g.cell (by first|(simp;done)|(simp;omega))];go_simp;done
 have Yc:k (aD (w+1+1) 2)=some (.bool false):=by rw[g.cell (by first|(simp;done)|(simp;omega))];go_simp;done
 have Yh:k.frozen? (aD (w+1+1) 0)=false:=by rw[g.frozen (by first|(simp;done)|(simp;omega))];go_simp;done
 have Yg:k.frozen? (aD (w+1+1) 1)=false:=by rw[g.frozen (by first|(simp;done)|(simp;omega))];go_simp;done
 have Yf:k.frozen? (aD (w+1+1) 2)=false:=by rw[g.frozen (by first|(simp;done)|(simp;omega))];go_simp;done
 go_wp2_with fail
 exact bR ⟨rfl,cB⟩
def F9(n1 n2 o:Bool)(A B:Option Es)(i cb a b N m x y:Nat)(e1 e2 Es:Int)(w:AK)(l:IsL w A (nd a) a)(n:IsL w B (nd b) b)
 (S:Hid (∀W,IsL W A (nd a) a->IsL W B (nd b) b->Bf prog 69 #[aO n1 A a i e1,aO n2 B b cb e2] W (aP o N Es W)))(z:decide (0<nd N)=false)(C:((nd a:Int)==0))(D:((nd b:Int)==0))(E:(n1==n2)):
 Bf prog 63 #[aO n1 A a i e1,aO n2 B b cb e2,iI m] w (ah (aF n1) 0 false w):=by
 have d:=Zx ((aC (aC w #[.bool n1,.slice A (nd a) i,iI e1] 119) #[.bool n2,.slice B (nd b) cb,iI e2] 119).alloc nF) ((aC (aC w #[.bool n1,.slice A (nd a) i,iI e1] 119) #[.bool n2,.slice B (nd b) cb,iI e2] 119).alloc nF);have g:Np w w ((aC (aC w #[.bool n1,.slice A (nd a) i,iI e1] 119) #[.bool n2,.slice B (nd b) cb,iI e2] 119).alloc nF):=(((Zx _ w).alloc sM _).alloc sM _).alloc sO _;have j:=l.below (Zo _) g;have k:=n.below (Zo _) g;go_enter func63,ntmps63
 go_wp2_with fail
 refine(S.out _ j k).mono ?_;rintro e f⟨X,c,rfl,p,q,F,h⟩;replace d:=d.trans (h.mono d.size);have G:(w:Nat)+3<=f:=by have:=h.size;simp at this;omega
 have r:(w:Nat)<f:=oM;have s:(w:Nat)+1<f:=oM;have t:(w:Nat)+1+1<f:=oM;clear h S l n j k;have dB:cF f w 0 (.bool n1):=cK d;have dA:cF f w 1 (.slice A (nd a) i):=cK d;have dz:cF f w 2 (iI e1):=cK d;have iK:cF f (w+1) 0 (.bool n2):=cK d;have iJ:cF f (w+1) 1 (.slice B (nd b) cb):=cK d;have iG:cF f (w+1) 2 (iI e2):=cK d;have iF:cF f (w+1+1) 0 (iU 0):=cK d;have iQ:fZ f (w+1+1) 0:=fK d;have iE:cF f (w+1+1) 1 (iI 0):=cK d;have iP:fZ f (w+1+1) 1:=fK d;have iD:cF f (w+1+1) 2 (.bool false):=cK d;have iO:fZ f (w+1+1) 2:=fK d;have u:=g.trans (d.mono g.size)
 go_wp2_with(go_at_call 93;refine(fC _ _).mono ?_;rintro e w'⟨rfl,rfl⟩)
 refine aaT (v:=RV (aF n1) 0 false) (by simp[results,results63,go_sem, *]) rfl ⟨rfl,?_⟩;exact cB
def F8(n1 n2 p:Bool)(A B:Option Es)(i cb a b N m z C:Nat)(e1 e2 Es:Int)(w:AK)(n:IsL w A (nd a) a)(o:IsL w B (nd b) b)
 (S:Hid (∀W,IsL W A (nd a) a->IsL W B (nd b) b->Bf prog 69 #[aO n1 A a i e1,aO n2 B b cb e2] W (aP p N Es W)))(D:decide (0<nd N)=false)(E:((nd a:Int)==0)=false)(l:Bool)(q:((m:Int)==4)=l):
 Bf prog 63 #[aO n1 A a i e1,aO n2 B b cb e2,iI m] w (ah (aF l) 0 false w):=by
 have d:=Zx ((aC (aC w #[.bool n1,.slice A (nd a) i,iI e1] 119) #[.bool n2,.slice B (nd b) cb,iI e2] 119).alloc nF) ((aC (aC w #[.bool n1,.slice A (nd a) i,iI e1] 119) #[.bool n2,.slice B (nd b) cb,iI e2] 119).alloc nF);have g:Np w w ((aC (aC w #[.bool n1,.slice A (nd a) i,iI e1] 119) #[.bool n2,.slice B (nd b) cb,iI e2] 119).alloc nF):=(((Zx _ w).alloc sM _).alloc sM _).alloc sO _;have j:=n.below (Zo _) g;have k:=o.below (Zo _) g;go_enter func63,ntmps63
 go_wp2_with fail
 refine(S.out _ j k).mono ?_;rintro e f⟨X,c,rfl,r,s,F,h⟩;replace d:=d.trans (h.mono d.size);have G:(w:Nat)+3<=f:=by have:=h.size;simp at this;omega
 have t:(w:Nat)<f:=oM;have u:(w:Nat)+1<f:=oM;have x:(w:Nat)+1+1<f:=oM;clear h S n o j k;have dB:cF f w 0 (.bool n1):=cK d;have dA:cF f w 1 (.slice A (nd a) i):=cK d;have dz:cF f w 2 (iI e1):=cK d;have iK:cF f (w+1) 0 (.bool n2):=cK d;have iJ:cF f (w+1) 1 (.slice B (nd b) cb):=cK d;have iG:cF f (w+1) 2 (iI e2):=cK d;have iF:cF f (w+1+1) 0 (iU 0):=cK d;have iQ:fZ f (w+1+1) 0:=fK d;have iE:cF f (w+1+1) 1 (iI 0):=cK d;have iP:fZ f (w+1+1) 1:=fK d;have iD:cF f (w+1+1) 2 (.bool false):=cK d;have iO:fZ f (w+1+1) 2:=fK d;have y:=g.trans (d.mono g.size)
 go_wp2_with(go_at_call 93;refine(fC _ _).mono ?_;rintro e w'⟨rfl,rfl⟩)
 refine aaT (v:=RV (aF l) 0 false) (by simp[results,results63,go_sem, *]) rfl ⟨rfl,?_⟩;exact cB
def F7(n1 n2 p:Bool)(A B:Option Es)(i cb a b N m z C:Nat)(e1 e2 Es:Int)(w:AK)(n:IsL w A (nd a) a)(o:IsL w B (nd b) b)
 (S:Hid (∀W,IsL W A (nd a) a->IsL W B (nd b) b->Bf prog 69 #[aO n1 A a i e1,aO n2 B b cb e2] W (aP p N Es W)))(D:decide (0<nd N)=false)(E:((nd a:Int)==0))(F:((nd b:Int)==0)=false)(l:Bool)(q:((m:Int)==4)=l):
 Bf prog 63 #[aO n1 A a i e1,aO n2 B b cb e2,iI m] w (ah (aF l) 0 false w):=by
 have d:=Zx ((aC (aC w #[.bool n1,.slice A (nd a) i,iI e1] 119) #[.bool n2,.slice B (nd b) cb,iI e2] 119).alloc nF) ((aC (aC w #[.bool n1,.slice A (nd a) i,iI e1] 119) #[.bool n2,.slice B (nd b) cb,iI e2] 119).alloc nF);have g:Np w w ((aC (aC w #[.bool n1,.slice A (nd a) i,iI e1] 119) #[.bool n2,.slice B (nd b) cb,iI e2] 119).alloc nF):=(((Zx _ w).alloc sM _).alloc sM _).alloc sO _;have j:=n.below (Zo _) g;have k:=o.below (Zo _) g;go_enter func63,ntmps63
 go_wp2_with fail
 refine(S.out _ j k).mono ?_;rintro e f⟨X,c,rfl,r,s,G,h⟩;replace d:=d.trans (h.mono d.size);have H:(w:Nat)+3<=f:=by have:=h.size;simp at this;omega
 have t:(w:Nat)<f:=oM;have u:(w:Nat)+1<f:=oM;have x:(w:Nat)+1+1<f:=oM;clear h S n o j k;have dB:cF f w 0 (.bool n1):=cK d;have dA:cF f w 1 (.slice A (nd a) i):=cK d;have dz:cF f w 2 (iI e1):=cK d;have iK:cF f (w+1) 0 (.bool n2):=cK d;have iJ:cF f (w+1) 1 (.slice B (nd b) cb):=cK d;have iG:cF f (w+1) 2 (iI e2):=cK d;have iF:cF f (w+1+1) 0 (iU 0):=cK d;have iQ:fZ f (w+1+1) 0:=fK d;have iE:cF f (w+1+1) 1 (iI 0):=cK d;have iP:fZ f (w+1+1) 1:=fK d;have iD:cF f (w+1+1) 2 (.bool false):=cK d;have iO:fZ f (w+1+1) 2:=fK d;have y:=g.trans (d.mono g.size)
 go_wp2_with(go_at_call 93;refine(fC _ _).mono ?_;rintro e w'⟨rfl,rfl⟩)
 refine aaT (v:=RV (aF l) 0 false) (by simp[results,results63,go_sem, *]) rfl ⟨rfl,?_⟩;exact cB
def F6(n1 n2 p:Bool)(A B:Option Es)(i cb a b N m z C:Nat)(e1 e2 Es:Int)(w:AK)(n:IsL w A (nd a) a)(o:IsL w B (nd b) b)
 (S:Hid (∀W,IsL W A (nd a) a->IsL W B (nd b) b->Bf prog 69 #[aO n1 A a i e1,aO n2 B b cb e2] W (aP p N Es W)))(D:decide (0<nd N)=false)(E:((nd a:Int)==0))(F:((nd b:Int)==0))(G:(n1==n2)=false)(l:Bool)(q:((m:Int)==4)=l):
 Bf prog 63 #[aO n1 A a i e1,aO n2 B b cb e2,iI m] w (ah (aF l) 0 false w):=by
 have d:=Zx ((aC (aC w #[.bool n1,.slice A (nd a) i,iI e1] 119) #[.bool n2,.slice B (nd b) cb,iI e2] 119).alloc nF) ((aC (aC w #[.bool n1,.slice A (nd a) i,iI e1] 119) #[.bool n2,.slice B (nd b) cb,iI e2] 119).alloc nF);have g:Np w w ((aC (aC w #[.bool n1,.slice A (nd a) i,iI e1] 119) #[.bool n2,.slice B (nd b) cb,iI e2] 119).alloc nF):=(((Zx _ w).alloc sM _).alloc sM _).alloc sO _;have j:=n.below (Zo _) g;have k:=o.below (Zo _) g;go_enter func63,ntmps63
 go_wp2_with fail
 refine(S.out _ j k).mono ?_;rintro e f⟨X,c,rfl,r,s,H,h⟩;replace d:=d.trans (h.mono d.size);have I:(w:Nat)+3<=f:=by have:=h.size;simp at this;omega
 have t:(w:Nat)<f:=oM;have u:(w:Nat)+1<f:=oM;have x:(w:Nat)+1+1<f:=oM;clear h S n o j k;have dB:cF f w 0 (.bool n1):=cK d;have dA:cF f w 1 (.slice A (nd a) i):=cK d;have dz:cF f w 2 (iI e1):=cK d;have iK:cF f (w+1) 0 (.bool n2):=cK d;have iJ:cF f (w+1) 1 (.slice B (nd b) cb):=cK d;have iG:cF f (w+1) 2 (iI e2):=cK d;have iF:cF f (w+1+1) 0 (iU 0):=cK d;have iQ:fZ f (w+1+1) 0:=fK d;have iE:cF f (w+1+1) 1 (iI 0):=cK d;have iP:fZ f (w+1+1) 1:=fK d;have iD:cF f (w+1+1) 2 (.bool false):=cK d;have iO:fZ f (w+1+1) 2:=fK d;have y:=g.trans (d.mono g.size)
 go_wp2_with(go_at_call 93;refine(fC _ _).mono ?_;rintro e w'⟨rfl,rfl⟩)
 refine aaT (v:=RV (aF l) 0 false) (by simp[results,results63,go_sem, *]) rfl ⟨rfl,?_⟩;exact cB
def IB(m a b:Nat)(c:PC 43 #[.int .u64 a] (.int .i64 3))(d:PC 43 #[.int .u64 b] (.int .i64 3))(e:((a:Int)!=b))(w:AK):
 Bf prog 46 #[.int .u64 a,.int .u64 b,.int .i64 m] w (ah 9221120237041090560 16 false w):=by
 go_enter func46,ntmps46
 go_wp2_with(first|(go_at_call_of 43 (Value.int IntKind.u64 a);refine gW (c.out _) ?_)|(go_at_call_of 43 (Value.int IntKind.u64 b);refine gW (d.out _) ?_))
 all_goals exact bR ⟨rfl,cB⟩
def Mc(m a b:Nat)(c:PC 43 #[.int .u64 a] (.int .i64 3))(d:PC 43 #[.int .u64 b] (.int .i64 3))(e:((a:Int)!=b)=false)(w:AK):
 Bf prog 46 #[.int .u64 a,.int .u64 b,.int .i64 m] w (ah a 0 false w):=by
 go_enter func46,ntmps46
 go_wp2_with(first|(go_at_call_of 43 (Value.int IntKind.u64 a);refine gW (c.out _) ?_)|(go_at_call_of 43 (Value.int IntKind.u64 b);refine gW (d.out _) ?_))
 all_goals exact bR ⟨rfl,cB⟩
def Mb(m a b c:Nat)(e:PC 43 #[.int .u64 a] (.int .i64 3))(f:PC 43 #[.int .u64 b] (.int .i64 (c:Int)))(d:((c:Int)==3)=false)(w:AK):
 Bf prog 46 #[.int .u64 a,.int .u64 b,.int .i64 m] w (ah a 0 false w):=by
 go_enter func46,ntmps46
 go_wp2_with(first|(go_at_call_of 43 (Value.int IntKind.u64 a);refine gW (e.out _) ?_)|(go_at_call_of 43 (Value.int IntKind.u64 b);refine gW (f.out _) ?_))
 all_goals exact bR ⟨rfl,cB⟩
def Ma(m a b c:Nat)(e:PC 43 #[.int .u64 a] (.int .i64 (c:Int)))(f:PC 43 #[.int .u64 b] (.int .i64 3))(d:((c:Int)==3)=false)(w:AK):
 Bf prog 46 #[.int .u64 a,.int .u64 b,.int .i64 m] w (ah b 0 false w):=by
 go_enter func46,ntmps46
 go_wp2_with(first|(go_at_call_of 43 (Value.int IntKind.u64 a);refine gW (e.out _) ?_)|(go_at_call_of 43 (Value.int IntKind.u64 b);refine gW (f.out _) ?_))
 all_goals exact bR ⟨rfl,cB⟩
def L9(m a b l n:Nat)(y:PC 43 #[.int .u64 a] (.int .i64 (l:Int)))(z:PC 43 #[.int .u64 b] (.int .i64 (n:Int)))(o p:Bool)(Na h q r:Nat)(s t:Int)(C:Hid (∀W,Bf prog 64 #[.int .u64 a] W (aP o Na s W)))(D:Hid (∀W,Bf prog 64 #[.int .u64 b] W (aP p h t W)))(P:Hid (∀W A B E cb,IsL W A (nd Na) Na->IsL W B (nd h) h->Bf prog 63 #[aO o A Na E s,aO p B h cb t,.int .i64 m] W (ah q r false W)))(u:((l:Int)==3)=false)(v:((n:Int)==3)=false)(w:AK):
 Bf prog 46 #[.int .u64 a,.int .u64 b,.int .i64 m] w (ah q r false w):=by
 go_enter func46,ntmps46
 go_wp2_with(first|(go_at_call_of 43 (Value.int IntKind.u64 a);refine gW (y.out _) ?_)|(go_at_call_of 43 (Value.int IntKind.u64 b);refine gW (z.out _) ?_))
 refine(C.out _).mono ?_;rintro e K⟨L,M,rfl,F,G,i,d⟩
 go_wp2_with fail
 refine(D.out _).mono ?_;rintro e N⟨O,Q,rfl,H,I,x,f⟩;replace i:=i.below (Zo _) f
 go_wp2_with fail
 refine gB (P.out _ _ _ _ _ i x) λg j=>?_;clear i x;have k:=d.size;simp at k;have J:=f.size;have c:=(d.trans (f.mono d.size)).trans (j.mono (Zz d.size f.size));have fH:g (aD w 0)=some (.int .u64 0):=cK c;have j7:g.frozen? (aD w 0)=false:=fK c;have gw:g (aD w 1)=some (.int .i64 0):=cK c;have j6:g.frozen? (aD w 1)=false:=fK c;have fG:g (aD w 2)=some (.bool false):=cK c;have j5:g.frozen? (aD w 2)=false:=fK c
 go_wp2_with fail
 all_goals exact bR ⟨rfl,cB⟩
end
section
variable{a b:Nat}{n1 n2:Bool}
def Nw(m:Nat)(ng:Bool)(n:Nat)(K:Int):il m ng n K=eU m ng n false K:=by unfold il eU;rw[aaW]
def Nx(n:Nat)(K:Int):tX n K=gV n false K:=by unfold tX gV;rw[aaW]
def vK(m:Nat)(ng:Bool)(n:Nat)(e:Int):nY m ng n e=az m ng n false e:=by
 unfold nY az E3 nR;simp only[Nw,Nx]
def yP{E:Int}(c:-5000<=E):((gP n1 n2 a b E).2.1≠0↔(fi n1 n2 (val a E) (val b E)).2≠0)/\((gP n1 n2 a b E).2.1≠0->∀m,az m (gP n1 n2 a b E).1 (gP n1 n2 a b E).2.1 false (gP n1 n2 a b E).2.2=az m (fi n1 n2 (val a E) (val b E)).1 (fi n1 n2 (val a E) (val b E)).2 false (-5000)):=by
 have d:=Zy (E+5000).toNat;unfold gP fi;by_cases f:n1=n2
 .simp only[ZC f];have e:val a E+val b E=val (a+b) E:=by unfold val;rw[abm]
  rw[e];exact⟨not_congr val_eq_zero.symm,λh m=>nX h c⟩
 simp only[Zr f];rcases acM a b with h|h|h
 .have g:val a E<val b E:=aax h d;have e:val b E-val a E=val (b-a) E:=by unfold val;rw[adJ]
  simp only[Zr (show¬a=b by omega),Zr (show¬b<a by omega),ZC g,e];exact⟨not_congr val_eq_zero.symm,λh m=>nX h c⟩
 .subst h;simp only[aba,Zr (Nat.lt_irrefl _),adk];exact⟨sM,λh=>absurd rfl h⟩
 have g:val b E<val a E:=aax h d;have e:val a E-val b E=val (a-b) E:=by unfold val;rw[adJ]
 simp only[Zr (show¬a=b by omega),ZC (show b<a by omega),Zr (show¬val a E<val b E by omega),e];exact⟨not_congr val_eq_zero.symm,λh m=>nX h c⟩
def HS{e1 e2:Int}(c:-5000<=e1)(d:-5000<=e2):((jc n1 n2 a b e1 e2).2.1≠0↔(fi n1 n2 (val a e1) (val b e2)).2≠0)/\((jc n1 n2 a b e1 e2).2.1≠0->∀m,az m (jc n1 n2 a b e1 e2).1 (jc n1 n2 a b e1 e2).2.1 false (jc n1 n2 a b e1 e2).2.2=az m (fi n1 n2 (val a e1) (val b e2)).1 (fi n1 n2 (val a e1) (val b e2)).2 false (-5000)):=by
 unfold jc;by_cases h:e2<e1
 .rw[ZC h];have e:val (a*2^(e1-e2).toNat) e2=val a e1:=by unfold val;rw[Z3,<-ZD];congr 2;omega
  rw[<-e];exact yP d
 rw[Zr h];have e:val (b*2^(e2-e1).toNat) e1=val b e2:=by unfold val;rw[Z3,<-ZD];congr 2;omega
 rw[<-e];exact yP c
end
section
open Go.RowKit
variable{a b c:Nat}
def Mx(op a b c n:Nat):(dX op a b c n).2.2<256:=by
 have h:=D7 a b c n;unfold dX;split
 .decide
 split
 .decide
 split
 .decide
 show gu a b c n<256;omega
def JH(c:Bool)(k:Nat)(d:k<256):(if c then k else 0)<256:=by split;exact d;decide
def gm(m:Nat)(ng:Bool)(n:Nat)(l:Bool)(e:Int):(az m ng n l e).2<256:=by
 unfold az;split
 .exact(by decide:(5:Nat)<256)
 split
 .exact JH _ 3 dC
 exact JH _ 1 dC
def wU(m:Nat)(n1 n2:Bool)(a b:Nat):(gU m n1 n2 a b).2<256:=by
 unfold gU;split
 .exact gm _ _ _ _ _
 split<;>exact(by decide:(0:Nat)<256)
def My(m a b:Nat):(j2 m a b).2<256:=by
 unfold j2;split;exact(by decide:(16:Nat)<256);split;exact(by decide:(0:Nat)<256);split;exact(by decide:(0:Nat)<256);exact gm _ _ _ _ _
def Nn(m a b:Nat):(ko m a b).2<256:=by
 unfold ko;split;exact(by decide:(16:Nat)<256);split;exact(by decide:(0:Nat)<256);split;exact(by decide:(0:Nat)<256);split;exact(by decide:(8:Nat)<256);exact gm _ _ _ _ _
def yq(m a b:Nat):(jO m a b).2<256:=by
 unfold jO;split;exact(by decide:(16:Nat)<256);split;exact(by decide:(0:Nat)<256);split;exact(by decide:(0:Nat)<256);exact wU _ _ _ _ _
def MY(m a b c:Nat):(kj m a b c).2<256:=by
 unfold kj;split;exact(by decide:(16:Nat)<256);split;exact yq _ _ _;split;exact(by decide:(0:Nat)<256);exact wU _ _ _ _ _
def fY{o m:Nat}(h:o≠0)(r:o<10)(s:∀(args:Array Aq)(w:AK),(callFunc (ki o) args).run prog w=.ok (.enter (ki o) args) w)(i:U64 a)(j:U64 b)(k:U64 c)
 (l:m<5->eP a b c (cU o)=false->∃e d,d<256/\(∀W,Bf prog (ki o) #[REC o m a b c] W (ai e d false W))/\((dX o a b c (cU o)=(false,0,0))->∀W,Bf prog 35 #[eV o m a b c] W (ah e d false W))):gY o m a b c:=by
 by_cases g:5<=m
 .exact wQ oM (.inr (.inr g))
 cases n:eP a b c (cU o)with
 |true=>
  have t:=vT (op:=o) n;have p:=Mx o a b c (cU o);have f:dX o a b c (cU o)=(true,(dX o a b c (cU o)).2.1,(dX o a b c (cU o)).2.2):=by rw[<-t]
  exact⟨_,_,false,λW q=>Lj o m a b c _ _ h oM g i j k f W q,λW=>Me o m a b c _ _ h r g i j k f W,p⟩
 |false=>
  obtain⟨e,d,p,D,R⟩:=l oM n;have f:=oT (op:=o) n;exact⟨e,d,false,λW q=>mz o m a b c e d s h oM g i j k f D W q,R f,p⟩
def D5(h:eP a b c 2=false):af a<4/\af b<4:=by
 have e:eP a b c 2=((false||decide (4<=af a))||decide (4<=af b)):=rfl;rw[e,aaP,aaP,aan,aan]at h;omega
def Tc(h:eP a b c 3=false):af a<4/\af b<4/\af c<4:=by
 have e:eP a b c 3=(((false||decide (4<=af a))||decide (4<=af b))||decide (4<=af c)):=rfl;rw[e,aaP,aaP,aaP,aan,aan,aan]at h;omega
end
section
open Go.RowKit
variable{a b c:Nat}
def UB{m n:Nat}{ng:Bool}{e:Int}(g:n≠0)(h:m<5)(i:bl n<=40000)(d:-40000<=e)(f:e<=40000)(W:AK)(A:Option Es)(c:Nat)(j:IsL W A (nd n) n):
 Bf prog 65 #[aO ng A n c e,iI m] W (ah (az m ng n false e).1 (az m ng n false e).2 false W):=by
 rw[<-vK];exact qT ng A c n m e W j g h i d f
def Jh:((nd a:Int)==0)=decide (a=0):=by
 by_cases h:a=0
 .rw[h,cO];rfl
 rw[Zv h,Zs];have:=p8.2 h;omega
def tf(n1 n2:Bool)(A B:Option Es)(d cb a b m:Nat)(e1 e2:Int)(w:AK)(f:IsL w A (nd a) a)(g:IsL w B (nd b) b)(H:m<5)(x:bl a<=200)(y:bl b<=200)(K:-4000<=e1)(L:e1<=4000)(M:-4000<=e2)(O:e2<=4000):
 Bf prog 63 #[aO n1 A a d e1,aO n2 B b cb e2,iI m] w (ah (gU m n1 n2 (val a e1) (val b e2)).1 (gU m n1 n2 (val a e1) (val b e2)).2 false w):=by
 have S:=Zp (λ(W:AK)f g=>zh n1 n2 A B d cb a b e1 e2 W f g x y oM oM oM oM);obtain⟨s,z⟩:=HS (n1:=n1) (n2:=n2) (a:=a) (b:=b) (e1:=e1) (e2:=e2) oM oM;obtain⟨C,D,E⟩:=BR (n1:=n1) (n2:=n2) (a:=a) (b:=b) (e1:=e1) (e2:=e2) x y oM oM oM oM;have F:=val_eq_zero (n:=a) (e:=e1);have G:=val_eq_zero (n:=b) (e:=e2);have o:=Jh (a:=a);have t:=Jh (a:=b);unfold gU;generalize jc n1 n2 a b e1 e2=r at*;obtain⟨l,N,Es⟩:=r;simp only at S s z C D E;by_cases j:N=0
 .have I:¬(fi n1 n2 (val a e1) (val b e2)).2≠0:=λh=>s.2 h j;have p:decide (0<nd N)=false:=by rw[j,cO];rfl
  rw[Zr I];by_cases k:val a e1=0/\val b e2=0/\n1=n2
  .rw[ZC k];exact F9 n1 n2 l A B d cb a b N m 0 0 e1 e2 Es w f g S p (by rw[o,ZP (F.1 k.1)]) (by rw[t,ZP (G.1 k.2.1)]) (by rw[k.2.2];exact beq_self_eq_true n2)
  rw[Zr k];have i:((m:Int)==4)=decide (m=4):=by
   by_cases h:m=4
   .rw[ZP h,h];rfl
   rw[Zv h,Zs];omega
  by_cases q:a=0
  .by_cases u:b=0
   ·(have v:(n1==n2)=false:=by rw[Zs];exact λh=>k ⟨F.2 q,G.2 u,h⟩);exact F6 n1 n2 l A B d cb a b N m 0 0 e1 e2 Es w f g S p (by rw[o,ZP q]) (by rw[t,ZP u]) v _ i
   exact F7 n1 n2 l A B d cb a b N m 0 0 e1 e2 Es w f g S p (by rw[o,ZP q]) (by rw[t,Zv u]) _ i
  exact F8 n1 n2 l A B d cb a b N m 0 0 e1 e2 Es w f g S p (by rw[o,Zv q]) _ i
 rw[ZC (s.1 j),<-z j];exact IA n1 n2 l A B d cb a b N m _ _ e1 e2 Es w f g S (ZP (p8.2 j)) (λW X c J=>UB j H C D E W X c J)
def th(m a b:Nat)(k:m<5)(i:U64 a)(j:U64 b)(q:af a<4)(r:af b<4)(w:AK):Bf prog 46 #[iU a,iU b,iI m] w (ah (jO m a b).1 (jO m a b).2 false w):=by
 have g:=Zp (λW=>bN a i W);have d:=Zp (λW=>bN b j W);unfold jO;by_cases h:af a=3
 .rw[h]at g⊢;by_cases e:af b=3
  .rw[e]at d⊢;by_cases f:a=b
   .rw[Zr (by simp[f]),ZC rfl];exact Mc m a b g d (by rw[f];simp) w
   rw[ZC ⟨rfl,rfl,f⟩];exact IB m a b g d (by rw[ac9];omega) w
  rw[Zr oM,ZC rfl];exact Mb m a b _ g d (zP (n:=3) e) w
 rw[Zr oM,Zr h];by_cases e:af b=3
 .rw[e]at d;rw[ZC e];exact Ma m a b _ g d (zP (n:=3) h) w
 rw[Zr e];have s:=aL a;have t:=aL b;have d1:=dU a;have d2:=dU b;exact L9 m a b _ _ g d _ _ _ _ _ _ _ _ (λW=>bx a i W) (λW=>bx b j W) (λW A B l cb o p=>tf _ _ A B l cb _ _ m _ _ W o p k oM oM oM oM oM oM) (zP (n:=3) h) (zP (n:=3) e) w
def N0{m:Nat}(d:U64 a)(e:U64 b)(f:U64 c):gY 1 m a b c:=
 fY dC dC (λargs w=>call130 args w) d e f λg j=>by
  obtain⟨h,i⟩:=D5 j;exact⟨_,_,yq m a b,λW=>r7 1 m a b c g d e h i W,λk W=>Su m a b c _ _ oM d e f k (λW=>th m a b g d e h i W) W⟩
def NZ{m:Nat}(e:U64 a)(d:U64 b)(f:U64 c):gY 2 m a b c:=
 fY dC dC (λargs w=>call131 args w) e d f λg j=>by
  obtain⟨h,i⟩:=D5 j;exact⟨_,_,yq m a (jT b),λW=>DF 2 m a b c g e d h i W,λk W=>Ss m a b c _ _ _ (yC d) oM e d f k (λW=>th m a (jT b) g e (HC d) h (by rw[vY d];exact i) W) W⟩
end
section
open Go.RowKit
def F0(m a b:Nat)(c:PC 43 #[.int .u64 a] (.int .i64 3))(d:PC 43 #[.int .u64 b] (.int .i64 3))(e:Nat)(f:Na .and .u64 (Na .xor .u64 (a:Int) (b:Int)) 9223372036854775808=e)(w:AK):
 Bf prog 48 #[.int .u64 a,.int .u64 b,.int .i64 m] w (ah 9221120237041090560 16 false w):=by
 go_enter func48,ntmps48
 go_wp2_with(first|(go_at_call_of 43 (Value.int IntKind.u64 a);refine gW (c.out _) ?_)|(go_at_call_of 43 (Value.int IntKind.u64 b);refine gW (d.out _) ?_))
 all_goals exact bR ⟨rfl,cB⟩
def FZ(m a b:Nat)(c:PC 43 #[.int .u64 a] (.int .i64 0))(d:PC 43 #[.int .u64 b] (.int .i64 0))(e:Nat)(f:Na .and .u64 (Na .xor .u64 (a:Int) (b:Int)) 9223372036854775808=e)(w:AK):
 Bf prog 48 #[.int .u64 a,.int .u64 b,.int .i64 m] w (ah 9221120237041090560 16 false w):=by
 go_enter func48,ntmps48
 go_wp2_with(first|(go_at_call_of 43 (Value.int IntKind.u64 a);refine gW (c.out _) ?_)|(go_at_call_of 43 (Value.int IntKind.u64 b);refine gW (d.out _) ?_))
 all_goals exact bR ⟨rfl,cB⟩
def Iv(m a b c:Nat)(g:PC 43 #[.int .u64 a] (.int .i64 3))(h:PC 43 #[.int .u64 b] (.int .i64 (c:Int)))(d:Nat)(i:Na .and .u64 (Na .xor .u64 (a:Int) (b:Int)) 9223372036854775808=d)(e:Nat)(j:IntKind.u64.wrap ((d:Int)+9218868437227405312)=e)(f:((c:Int)==3)=false)(w:AK):
 Bf prog 48 #[.int .u64 a,.int .u64 b,.int .i64 m] w (ah e 0 false w):=by
 go_enter func48,ntmps48
 go_wp2_with(first|(go_at_call_of 43 (Value.int IntKind.u64 a);refine gW (g.out _) ?_)|(go_at_call_of 43 (Value.int IntKind.u64 b);refine gW (h.out _) ?_))
 all_goals exact bR ⟨rfl,cB⟩
def L4(m a b c:Nat)(f:PC 43 #[.int .u64 a] (.int .i64 (c:Int)))(g:PC 43 #[.int .u64 b] (.int .i64 3))(d:Nat)(h:Na .and .u64 (Na .xor .u64 (a:Int) (b:Int)) 9223372036854775808=d)(e:((c:Int)==3)=false)(w:AK):
 Bf prog 48 #[.int .u64 a,.int .u64 b,.int .i64 m] w (ah d 0 false w):=by
 go_enter func48,ntmps48
 go_wp2_with(first|(go_at_call_of 43 (Value.int IntKind.u64 a);refine gW (f.out _) ?_)|(go_at_call_of 43 (Value.int IntKind.u64 b);refine gW (g.out _) ?_))
 all_goals exact bR ⟨rfl,cB⟩
def L3(m a b c:Nat)(g:PC 43 #[.int .u64 a] (.int .i64 0))(h:PC 43 #[.int .u64 b] (.int .i64 (c:Int)))(d:Nat)(i:Na .and .u64 (Na .xor .u64 (a:Int) (b:Int)) 9223372036854775808=d)(e:((c:Int)==3)=false)(f:((c:Int)==0)=false)(w:AK):
 Bf prog 48 #[.int .u64 a,.int .u64 b,.int .i64 m] w (ah d 0 false w):=by
 go_enter func48,ntmps48
 go_wp2_with(first|(go_at_call_of 43 (Value.int IntKind.u64 a);refine gW (g.out _) ?_)|(go_at_call_of 43 (Value.int IntKind.u64 b);refine gW (h.out _) ?_))
 all_goals exact bR ⟨rfl,cB⟩
def L6(m a b c:Nat)(h:PC 43 #[.int .u64 a] (.int .i64 (c:Int)))(i:PC 43 #[.int .u64 b] (.int .i64 0))(d:Nat)(j:Na .and .u64 (Na .xor .u64 (a:Int) (b:Int)) 9223372036854775808=d)(e:Nat)(k:IntKind.u64.wrap ((d:Int)+9218868437227405312)=e)(f:((c:Int)==3)=false)(g:((c:Int)==0)=false)(w:AK):
 Bf prog 48 #[.int .u64 a,.int .u64 b,.int .i64 m] w (ah e 8 false w):=by
 go_enter func48,ntmps48
 go_wp2_with(first|(go_at_call_of 43 (Value.int IntKind.u64 a);refine gW (h.out _) ?_)|(go_at_call_of 43 (Value.int IntKind.u64 b);refine gW (i.out _) ?_))
 all_goals exact bR ⟨rfl,cB⟩
def L5(m a b l n:Nat)(G:PC 43 #[.int .u64 a] (.int .i64 (l:Int)))(H:PC 43 #[.int .u64 b] (.int .i64 (n:Int)))(I:Nat)(Y:Na .and .u64 (Na .xor .u64 (a:Int) (b:Int)) 9223372036854775808=I)(q r ng:Bool)(Na j N s t:Nat)(u v x:Int)(J:Hid (∀W,Bf prog 64 #[.int .u64 a] W (aP q Na u W)))(K:Hid (∀W,Bf prog 64 #[.int .u64 b] W (aP r j v W)))(P:Hid (∀W A B L cb,IsL W A (nd Na) Na->IsL W B (nd j) j->Bf prog 67 #[aO q A Na L u,aO r B j cb v] W (aP ng N x W)))(F:Hid (∀W A c,IsL W A (nd N) N->Bf prog 65 #[aO ng A N c x,.int .i64 m] W (ah s t false W)))(y:((l:Int)==0)=false)(z:((l:Int)==3)=false)(C:((n:Int)==0)=false)(D:((n:Int)==3)=false)(w:AK):
 Bf prog 48 #[.int .u64 a,.int .u64 b,.int .i64 m] w (ah s t false w):=by
 go_enter func48,ntmps48
 go_wp2_with(first|(go_at_call_of 43 (Value.int IntKind.u64 a);refine gW (G.out _) ?_)|(go_at_call_of 43 (Value.int IntKind.u64 b);refine gW (H.out _) ?_))
 refine(J.out _).mono ?_;rintro e Z⟨A1,c1,rfl,M,O,k,f⟩
 go_wp2_with fail
 refine(K.out _).mono ?_;rintro e w2⟨A2,c2,rfl,Q,R,E,g⟩;replace k:=k.below (Zo _) g
 go_wp2_with fail
 refine(P.out _ _ _ _ _ k E).mono ?_;rintro e w3⟨A3,c3,rfl,S,T,U,h⟩;clear k E
 go_wp2_with fail
 refine gB (F.out _ _ _ U) λi o=>?_;have p:=f.size;simp at p;have V:=g.size;have X:=h.size;have d:=((f.trans (g.mono f.size)).trans (h.mono (Zz f.size g.size))).trans (o.mono (Zz f.size (Zz g.size h.size)));have iC:i (aD w 0)=some (.int .u64 0):=cK d;have iN:i.frozen? (aD w 0)=false:=fK d;have iz:i (aD w 1)=some (.int .i64 0):=cK d;have iM:i.frozen? (aD w 1)=false:=fK d;have iy:i (aD w 2)=some (.bool false):=cK d;have iL:i.frozen? (aD w 2)=false:=fK d
 go_wp2_with fail
 all_goals exact bR ⟨rfl,cB⟩
end
section
open Go.RowKit
def FT(m a b:Nat)(c:PC 43 #[.int .u64 a] (.int .i64 3))(d:PC 43 #[.int .u64 b] (.int .i64 0))(e:Nat)(f:Na .and .u64 (Na .xor .u64 (a:Int) (b:Int)) 9223372036854775808=e)(w:AK):
 Bf prog 47 #[.int .u64 a,.int .u64 b,.int .i64 m] w (ah 9221120237041090560 16 false w):=by
 go_enter func47,ntmps47
 go_wp2_with(first|(go_at_call_of 43 (Value.int IntKind.u64 a);refine gW (c.out _) ?_)|(go_at_call_of 43 (Value.int IntKind.u64 b);refine gW (d.out _) ?_))
 all_goals exact bR ⟨rfl,cB⟩
def FR(m a b:Nat)(c:PC 43 #[.int .u64 a] (.int .i64 0))(d:PC 43 #[.int .u64 b] (.int .i64 3))(e:Nat)(f:Na .and .u64 (Na .xor .u64 (a:Int) (b:Int)) 9223372036854775808=e)(w:AK):
 Bf prog 47 #[.int .u64 a,.int .u64 b,.int .i64 m] w (ah 9221120237041090560 16 false w):=by
 go_enter func47,ntmps47
 go_wp2_with(first|(go_at_call_of 43 (Value.int IntKind.u64 a);refine gW (c.out _) ?_)|(go_at_call_of 43 (Value.int IntKind.u64 b);refine gW (d.out _) ?_))
 all_goals exact bR ⟨rfl,cB⟩
def FQ(m a b c:Nat)(g:PC 43 #[.int .u64 a] (.int .i64 3))(h:PC 43 #[.int .u64 b] (.int .i64 (c:Int)))(d:Nat)(i:Na .and .u64 (Na .xor .u64 (a:Int) (b:Int)) 9223372036854775808=d)(e:Nat)(j:IntKind.u64.wrap ((d:Int)+9218868437227405312)=e)(f:((c:Int)==0)=false)(w:AK):
 Bf prog 47 #[.int .u64 a,.int .u64 b,.int .i64 m] w (ah e 0 false w):=by
 go_enter func47,ntmps47
 go_wp2_with(first|(go_at_call_of 43 (Value.int IntKind.u64 a);refine gW (g.out _) ?_)|(go_at_call_of 43 (Value.int IntKind.u64 b);refine gW (h.out _) ?_))
 all_goals exact bR ⟨rfl,cB⟩
def FO(m a b c:Nat)(h:PC 43 #[.int .u64 a] (.int .i64 (c:Int)))(i:PC 43 #[.int .u64 b] (.int .i64 3))(d:Nat)(j:Na .and .u64 (Na .xor .u64 (a:Int) (b:Int)) 9223372036854775808=d)(e:Nat)(k:IntKind.u64.wrap ((d:Int)+9218868437227405312)=e)(f:((c:Int)==0)=false)(g:((c:Int)==3)=false)(w:AK):
 Bf prog 47 #[.int .u64 a,.int .u64 b,.int .i64 m] w (ah e 0 false w):=by
 go_enter func47,ntmps47
 go_wp2_with(first|(go_at_call_of 43 (Value.int IntKind.u64 a);refine gW (h.out _) ?_)|(go_at_call_of 43 (Value.int IntKind.u64 b);refine gW (i.out _) ?_))
 all_goals exact bR ⟨rfl,cB⟩
def LV(m a b c:Nat)(f:PC 43 #[.int .u64 a] (.int .i64 0))(g:PC 43 #[.int .u64 b] (.int .i64 (c:Int)))(d:Nat)(h:Na .and .u64 (Na .xor .u64 (a:Int) (b:Int)) 9223372036854775808=d)(e:((c:Int)==3)=false)(w:AK):
 Bf prog 47 #[.int .u64 a,.int .u64 b,.int .i64 m] w (ah d 0 false w):=by
 go_enter func47,ntmps47
 go_wp2_with(first|(go_at_call_of 43 (Value.int IntKind.u64 a);refine gW (f.out _) ?_)|(go_at_call_of 43 (Value.int IntKind.u64 b);refine gW (g.out _) ?_))
 all_goals exact bR ⟨rfl,cB⟩
def LU(m a b c:Nat)(g:PC 43 #[.int .u64 a] (.int .i64 (c:Int)))(h:PC 43 #[.int .u64 b] (.int .i64 0))(d:Nat)(i:Na .and .u64 (Na .xor .u64 (a:Int) (b:Int)) 9223372036854775808=d)(e:((c:Int)==3)=false)(f:((c:Int)==0)=false)(w:AK):
 Bf prog 47 #[.int .u64 a,.int .u64 b,.int .i64 m] w (ah d 0 false w):=by
 go_enter func47,ntmps47
 go_wp2_with(first|(go_at_call_of 43 (Value.int IntKind.u64 a);refine gW (g.out _) ?_)|(go_at_call_of 43 (Value.int IntKind.u64 b);refine gW (h.out _) ?_))
 all_goals exact bR ⟨rfl,cB⟩
def LW(m a b l n:Nat)(G:PC 43 #[.int .u64 a] (.int .i64 (l:Int)))(H:PC 43 #[.int .u64 b] (.int .i64 (n:Int)))(I:Nat)(Y:Na .and .u64 (Na .xor .u64 (a:Int) (b:Int)) 9223372036854775808=I)(q r ng:Bool)(Na j N s t:Nat)(u v x:Int)(J:Hid (∀W,Bf prog 64 #[.int .u64 a] W (aP q Na u W)))(K:Hid (∀W,Bf prog 64 #[.int .u64 b] W (aP r j v W)))(P:Hid (∀W A B L cb,IsL W A (nd Na) Na->IsL W B (nd j) j->Bf prog 66 #[aO q A Na L u,aO r B j cb v] W (aP ng N x W)))(F:Hid (∀W A c,IsL W A (nd N) N->Bf prog 65 #[aO ng A N c x,.int .i64 m] W (ah s t false W)))(y:((l:Int)==0)=false)(z:((l:Int)==3)=false)(C:((n:Int)==0)=false)(D:((n:Int)==3)=false)(w:AK):
 Bf prog 47 #[.int .u64 a,.int .u64 b,.int .i64 m] w (ah s t false w):=by
 go_enter func47,ntmps47
 go_wp2_with(first|(go_at_call_of 43 (Value.int IntKind.u64 a);refine gW (G.out _) ?_)|(go_at_call_of 43 (Value.int IntKind.u64 b);refine gW (H.out _) ?_))
 refine(J.out _).mono ?_;rintro e Z⟨A1,c1,rfl,M,O,k,f⟩
 go_wp2_with fail
 refine(K.out _).mono ?_;rintro e w2⟨A2,c2,rfl,Q,R,E,g⟩;replace k:=k.below (Zo _) g
 go_wp2_with fail
 refine(P.out _ _ _ _ _ k E).mono ?_;rintro e w3⟨A3,c3,rfl,S,T,U,h⟩;clear k E
 go_wp2_with fail
 refine gB (F.out _ _ _ U) λi o=>?_;have p:=f.size;simp at p;have V:=g.size;have X:=h.size;have d:=((f.trans (g.mono f.size)).trans (h.mono (Zz f.size g.size))).trans (o.mono (Zz f.size (Zz g.size h.size)));have iC:i (aD w 0)=some (.int .u64 0):=cK d;have iN:i.frozen? (aD w 0)=false:=fK d;have iz:i (aD w 1)=some (.int .i64 0):=cK d;have iM:i.frozen? (aD w 1)=false:=fK d;have iy:i (aD w 2)=some (.bool false):=cK d;have iL:i.frozen? (aD w 2)=false:=fK d
 go_wp2_with fail
 all_goals exact bR ⟨rfl,cB⟩
end
section
open Go.RowKit
def rS(a:Nat):Mod (exN a):=by have:=dU a;unfold Mod;omega
def kl{m n:Nat}{ng:Bool}{e:Int}(d:n≠0)(f:m<5)(g:bl n<=40000)(a:-40000<=e)(b:e<=40000)(W:AK)(A:Option Es)(c:Nat)(h:IsL W A (nd n) n):
 Bf prog 65 #[aO ng A n c e,iI m] W (ah (az m ng n false e).1 (az m ng n false e).2 false W):=by
 rw[<-vK];exact qT ng A c n m e W h d f g a b
def KU(a b:Nat):bl (exN a*exN b)<=106:=by have:=b9 (exN a) (exN b);have:=dU a;have:=dU b;omega
def Dv{g:Bool}{x:Nat}(h:x<9223372036854775808):IntKind.u64.wrap ((aF g:Int)+(x:Int))=((aF g+x:Nat):Int):=by
 cases g
 .have e:aF false=0:=rfl;rw[e,ZV];omega
 have e:aF true=9223372036854775808:=rfl;rw[e,ZV];omega
def Im(m a b:Nat)(v:m<5)(o:U64 a)(p:U64 b)(D:af a<4)(E:af b<4)(w:AK):Bf prog 47 #[iU a,iU b,iI m] w (ah (j2 m a b).1 (j2 m a b).2 false w):=by
 have d:=Zp (λW=>bN a o W);have f:=Zp (λW=>bN b p W);have h:=jP o p;have i:=Dv (g:=aE a !=aE b) (x:=9218868437227405312) oM;have F:=bC (x:=a);have G:=bC (x:=b);by_cases q:af a=3/\af b=0
 .have e:j2 m a b=(9221120237041090560,16):=by unfold j2;rw[ZC (.inl q)]
  rw[e];rw[q.1]at d;rw[q.2]at f;exact FT m a b d f _ h w
 by_cases r:af a=0/\af b=3
 .have e:j2 m a b=(9221120237041090560,16):=by unfold j2;rw[ZC (.inr r)]
  rw[e];rw[r.1]at d;rw[r.2]at f;exact FR m a b d f _ h w
 have y:j2 m a b=if af a=3\/af b=3 then(aF (aE a !=aE b)+9218868437227405312,0)
  else if af a=0\/af b=0 then(aF (aE a !=aE b),0)
  else az m (aE a !=aE b) (exN a*exN b) false (exE a+exE b):=by unfold j2;rw[Zr oM]
 rw[y];by_cases j:af a=3
 .rw[ZC (.inl j)];rw[j]at d;exact FQ m a b _ d f _ h _ i (nef (n:=0) oM) w
 by_cases k:af b=3
 .rw[ZC (.inr k)];rw[k]at f;exact FO m a b _ d f _ h _ i (nef (n:=0) oM) (nef (n:=3) j) w
 rw[Zr oM];by_cases l:af a=0
 .rw[ZC (.inl l)];rw[l]at d;exact LV m a b _ d f _ h (nef (n:=3) k) w
 by_cases s:af b=0
 .rw[ZC (.inr s)];rw[s]at f;exact LU m a b _ d f _ h (nef (n:=3) j) (nef (n:=0) l) w
 rw[Zr oM];have H:exN a≠0:=oM;have I:exN b≠0:=oM;have t:exN a*exN b≠0:=by rw[Ne,aa7];omega
 have J:=aL a;have K:=aL b;have L:=KU a b;exact LW m a b _ _ d f _ h _ _ _ _ _ _ _ _ _ _ _ (λW=>bx a o W) (λW=>bx b p W)
  (λW A B z cb u C=>kB _ _ A B z cb _ _ _ _ W u C (rS a) (rS b) (by rw[ZZ];omega))
  (λW A c u=>kl t v oM oM oM W A c u) (nef (n:=0) l) (nef (n:=3) j) (nef (n:=0) s) (nef (n:=3) k) w
def NY{m a b c:Nat}(d:U64 a)(e:U64 b)(f:U64 c):gY 3 m a b c:=
 fY dC dC (λargs w=>call132 args w) d e f λg j=>by
  obtain⟨h,i⟩:=D5 j;exact⟨_,_,My m a b,λW=>D8 3 m a b c g d e h i W,λk W=>Sr m a b c _ _ oM d e f k (λW=>Im m a b g d e h i W) W⟩
end
section
open Go.RowKit
def Qs(q:Nat)(wh:Bool):bl (mk2 q wh)<=bl q+3:=by
 unfold mk2;have a:=e7 (show q*2+(if wh then 0 else 1)<=q*2^2+3 by split<;>omega);have b:bl (q*2^2+3)<=bl q+3:=by
  rw[br];have:=aN q;have e:2^(bl q+3)=2^bl q*8:=by rw[ZD]
  rw[e];omega
 omega
def Iw(m a b:Nat)(C:m<5)(s:U64 a)(t:U64 b)(L:af a<4)(M:af b<4)(w:AK):Bf prog 48 #[iU a,iU b,iI m] w (ah (ko m a b).1 (ko m a b).2 false w):=by
 have d:=Zp (λW=>bN a s W);have f:=Zp (λW=>bN b t W);have h:=jP s t;have j:=Dv (g:=aE a !=aE b) (x:=9218868437227405312) oM;have N:=bC (x:=a);have O:=bC (x:=b);by_cases o:af a=3/\af b=3
 .have e:ko m a b=(9221120237041090560,16):=by unfold ko;rw[ZC (.inl o)]
  rw[e];rw[o.1]at d;rw[o.2]at f;exact F0 m a b d f _ h w
 by_cases l:af a=0/\af b=0
 .have e:ko m a b=(9221120237041090560,16):=by unfold ko;rw[ZC (.inr l)]
  rw[e];rw[l.1]at d;rw[l.2]at f;exact FZ m a b d f _ h w
 have D:ko m a b=if af a=3 then(aF (aE a !=aE b)+9218868437227405312,0)
  else if af b=3\/af a=0 then(aF (aE a !=aE b),0)
  else if af b=0 then(aF (aE a !=aE b)+9218868437227405312,8)
  else az m (aE a !=aE b) (mk2 (exN a*2^120/exN b) (decide (exN a*2^120%exN b=0))) false (exE a-120-exE b-1):=by unfold ko;rw[Zr oM]
 rw[D];by_cases i:af a=3
 .rw[ZC i];rw[i]at d;exact Iv m a b _ d f _ h _ j (nef (n:=3) oM) w
 rw[Zr i];by_cases p:af b=3
 .rw[ZC (.inl p)];rw[p]at f;exact L4 m a b _ d f _ h (nef (n:=3) i) w
 by_cases q:af a=0
 .rw[ZC (.inr q)];rw[q]at d;exact L3 m a b _ d f _ h (nef (n:=3) p) (nef (n:=0) oM) w
 rw[Zr oM];by_cases r:af b=0
 .rw[ZC r];rw[r]at f;exact L6 m a b _ d f _ h _ j (nef (n:=3) i) (nef (n:=0) q) w
 rw[Zr r];have E:exN a≠0:=oM;have F:exN b≠0:=oM;have P:=aL a;have Q:=aL b;have R:=dU a;have S:=dU b;have T:=bO (k:=120) E;have u:Sm (exN a*2^120):=by unfold Sm;omega
 have v:Sm (exN b):=by unfold Sm;omega
 have y:exN a*2^120/exN b≠0:=by
  have o:=CX b;have l:exN b<=exN a*2^120:=Zz (by omega:exN b<=2^120) (adm _ oM);have:=adO l oM;omega
 have G:bl (exN a*2^120/exN b)<=173:=by
  have:=e7 (aaM (exN a*2^120) (exN b));omega
 have H:=Qs (exN a*2^120/exN b) (decide (exN a*2^120%exN b=0));have I:mk2 (exN a*2^120/exN b) (decide (exN a*2^120%exN b=0))≠0:=by
  unfold mk2;have:0<exN a*2^120/exN b:=aaK y;omega
 exact L5 m a b _ _ d f _ h _ _ _ _ _ _ _ _ _ _ _ (λW=>bx a s W) (λW=>bx b t W)
  (λW A B J cb z K=>uL _ _ A B J cb _ _ _ _ _ _ _ W z K u v (aaK F) (jQ oM oM) (jQ oM oM) (jQ oM oM))
  (λW A c z=>kl I C oM oM oM W A c z) (nef (n:=0) q) (nef (n:=3) i) (nef (n:=0) r) (nef (n:=3) p) w
def NX{m a b c:Nat}(d:U64 a)(e:U64 b)(f:U64 c):gY 4 m a b c:=
 fY dC dC (λargs w=>call133 args w) d e f λg j=>by
  obtain⟨h,i⟩:=D5 j;exact⟨_,_,Nn m a b,λW=>Ex 4 m a b c g d e h i W,λk W=>Sq m a b c _ _ oM d e f k (λW=>Iw m a b g d e h i W) W⟩
end
section
open Go.RowKit
def FW(m a b c d:Nat)(e:PC 43 #[.int .u64 a] (.int .i64 3))(f:PC 43 #[.int .u64 b] (.int .i64 0))(g:PC 43 #[.int .u64 c] (.int .i64 (d:Int)))(h:Nat)(i:Na .and .u64 (Na .xor .u64 (a:Int) (b:Int)) 9223372036854775808=h)(w:AK):
 Bf prog 49 #[.int .u64 a,.int .u64 b,.int .u64 c,.int .i64 m] w (ah 9221120237041090560 16 false w):=by
 go_enter func49,ntmps49
 go_wp2_with(first|(go_at_call_of 43 (Value.int IntKind.u64 a);refine gW (e.out _) ?_)|(go_at_call_of 43 (Value.int IntKind.u64 b);refine gW (f.out _) ?_)|(go_at_call_of 43 (Value.int IntKind.u64 c);refine gW (g.out _) ?_))
 all_goals exact bR ⟨rfl,cB⟩
def FU(m a b c d:Nat)(e:PC 43 #[.int .u64 a] (.int .i64 0))(f:PC 43 #[.int .u64 b] (.int .i64 3))(g:PC 43 #[.int .u64 c] (.int .i64 (d:Int)))(h:Nat)(i:Na .and .u64 (Na .xor .u64 (a:Int) (b:Int)) 9223372036854775808=h)(w:AK):
 Bf prog 49 #[.int .u64 a,.int .u64 b,.int .u64 c,.int .i64 m] w (ah 9221120237041090560 16 false w):=by
 go_enter func49,ntmps49
 go_wp2_with(first|(go_at_call_of 43 (Value.int IntKind.u64 a);refine gW (e.out _) ?_)|(go_at_call_of 43 (Value.int IntKind.u64 b);refine gW (f.out _) ?_)|(go_at_call_of 43 (Value.int IntKind.u64 c);refine gW (g.out _) ?_))
 all_goals exact bR ⟨rfl,cB⟩
def LY(m a b c f l:Nat)(n:PC 43 #[.int .u64 a] (.int .i64 3))(o:PC 43 #[.int .u64 b] (.int .i64 (f:Int)))(p:PC 43 #[.int .u64 c] (.int .i64 (l:Int)))(g:Nat)(r:Na .and .u64 (Na .xor .u64 (a:Int) (b:Int)) 9223372036854775808=g)(h:Nat)(s:IntKind.u64.wrap ((g:Int)+9218868437227405312)=h)(i j:Nat)(q:Hid (∀W,Bf prog 46 #[.int .u64 h,.int .u64 c,.int .i64 m] W (ah i j false W)))(k:((f:Int)==0)=false)(w:AK):
 Bf prog 49 #[.int .u64 a,.int .u64 b,.int .u64 c,.int .i64 m] w (ah i j false w):=by
 go_enter func49,ntmps49
 go_wp2_with(first|(go_at_call_of 43 (Value.int IntKind.u64 a);refine gW (n.out _) ?_)|(go_at_call_of 43 (Value.int IntKind.u64 b);refine gW (o.out _) ?_)|(go_at_call_of 43 (Value.int IntKind.u64 c);refine gW (p.out _) ?_))
 refine gB (q.out _) λe d=>?_;have dB:e (aD w 0)=some (.int .u64 0):=cK d;have nf:e.frozen? (aD w 0)=false:=fK d;have dA:e (aD w 1)=some (.int .i64 0):=cK d;have mZ:e.frozen? (aD w 1)=false:=fK d;have dz:e (aD w 2)=some (.bool false):=cK d;have mY:e.frozen? (aD w 2)=false:=fK d
 go_wp2_with fail
 all_goals exact bR ⟨rfl,cB⟩
def LX(m a b c f n:Nat)(o:PC 43 #[.int .u64 a] (.int .i64 (f:Int)))(p:PC 43 #[.int .u64 b] (.int .i64 3))(q:PC 43 #[.int .u64 c] (.int .i64 (n:Int)))(g:Nat)(s:Na .and .u64 (Na .xor .u64 (a:Int) (b:Int)) 9223372036854775808=g)(h:Nat)(t:IntKind.u64.wrap ((g:Int)+9218868437227405312)=h)(i j:Nat)(r:Hid (∀W,Bf prog 46 #[.int .u64 h,.int .u64 c,.int .i64 m] W (ah i j false W)))(k:((f:Int)==0)=false)(l:((f:Int)==3)=false)(w:AK):
 Bf prog 49 #[.int .u64 a,.int .u64 b,.int .u64 c,.int .i64 m] w (ah i j false w):=by
 go_enter func49,ntmps49
 go_wp2_with(first|(go_at_call_of 43 (Value.int IntKind.u64 a);refine gW (o.out _) ?_)|(go_at_call_of 43 (Value.int IntKind.u64 b);refine gW (p.out _) ?_)|(go_at_call_of 43 (Value.int IntKind.u64 c);refine gW (q.out _) ?_))
 refine gB (r.out _) λe d=>?_;have dB:e (aD w 0)=some (.int .u64 0):=cK d;have nf:e.frozen? (aD w 0)=false:=fK d;have dA:e (aD w 1)=some (.int .i64 0):=cK d;have mZ:e.frozen? (aD w 1)=false:=fK d;have dz:e (aD w 2)=some (.bool false):=cK d;have mY:e.frozen? (aD w 2)=false:=fK d
 go_wp2_with fail
 all_goals exact bR ⟨rfl,cB⟩
def L2(m a b c d e:Nat)(h:PC 43 #[.int .u64 a] (.int .i64 (d:Int)))(i:PC 43 #[.int .u64 b] (.int .i64 (e:Int)))(j:PC 43 #[.int .u64 c] (.int .i64 3))(k:Nat)(l:Na .and .u64 (Na .xor .u64 (a:Int) (b:Int)) 9223372036854775808=k)(f:((d:Int)==3)=false)(g:((e:Int)==3)=false)(w:AK):
 Bf prog 49 #[.int .u64 a,.int .u64 b,.int .u64 c,.int .i64 m] w (ah c 0 false w):=by
 go_enter func49,ntmps49
 go_wp2_with(first|(go_at_call_of 43 (Value.int IntKind.u64 a);refine gW (h.out _) ?_)|(go_at_call_of 43 (Value.int IntKind.u64 b);refine gW (i.out _) ?_)|(go_at_call_of 43 (Value.int IntKind.u64 c);refine gW (j.out _) ?_))
 all_goals exact bR ⟨rfl,cB⟩
def LZ(m a b c D J K:Nat)(Ka:PC 43 #[.int .u64 a] (.int .i64 (D:Int)))(Kb:PC 43 #[.int .u64 b] (.int .i64 (J:Int)))(Kc:PC 43 #[.int .u64 c] (.int .i64 (K:Int)))(sg:Nat)(hx:Na .and .u64 (Na .xor .u64 (a:Int) (b:Int)) 9223372036854775808=sg)(L M O ng:Bool)(Na x Nc N Q R:Nat)(S T U r:Int)(Ea:Hid (∀W,Bf prog 64 #[.int .u64 a] W (aP L Na S W)))(Eb:Hid (∀W,Bf prog 64 #[.int .u64 b] W (aP M x T W)))(Ec:Hid (∀W,Bf prog 64 #[.int .u64 c] W (aP O Nc U W)))(P:Hid (∀W A B E cb,IsL W A (nd Na) Na->IsL W B (nd x) x->Bf prog 66 #[aO L A Na E S,aO M B x cb T] W (aP ng N r W)))(AD:Hid (∀W A B E cb,IsL W A (nd N) N->IsL W B (nd Nc) Nc->Bf prog 63 #[aO ng A N E r,aO O B Nc cb U,.int .i64 m] W (ah Q R false W)))(V:((D:Int)==3)=false)(X:((J:Int)==3)=false)(Y:((K:Int)==3)=false)(z:Bool)(hz0:((D:Int)==0)=z)(w:AK):
 Bf prog 49 #[.int .u64 a,.int .u64 b,.int .u64 c,.int .i64 m] w (ah Q R false w):=by
 cases z;all_goals
  go_enter func49,ntmps49
  go_wp2_with(first|(go_at_call_of 43 (Value.int IntKind.u64 a);refine gW (Ka.out _) ?_)|(go_at_call_of 43 (Value.int IntKind.u64 b);refine gW (Kb.out _) ?_)|(go_at_call_of 43 (Value.int IntKind.u64 c);refine gW (Kc.out _) ?_))
  refine(Ea.out _).mono ?_;rintro e w1⟨A1,c1,rfl,n1_,m1_,y,j⟩
  go_wp2_with fail
  refine(Eb.out _).mono ?_;rintro e w2⟨A2,c2,rfl,n2_,m2_,Z,k⟩;replace y:=y.below (Zo _) k
  go_wp2_with fail
  refine(P.out _ _ _ _ _ y Z).mono ?_;rintro e g⟨n,u,rfl,n3_,m3_,i3,s⟩;clear y Z;have F:=j.size;simp at F;have hz2:=k.size;have hz3:=s.size;have h:=(j.trans (k.mono j.size)).trans (s.mono (Zz j.size k.size));have fH:g (aD w 0)=some (.int .u64 0):=cK h;have j7:g.frozen? (aD w 0)=false:=fK h;have gw:g (aD w 1)=some (.int .i64 0):=cK h;have j6:g.frozen? (aD w 1)=false:=fK h;have fG:g (aD w 2)=some (.bool false):=cK h;have j5:g.frozen? (aD w 2)=false:=fK h;have hs3:(w:Nat)<g:=oM;have aa:(w:Nat)+1<=g:=oM;have G:Np w w g:=((Zx _ w).alloc (Zo _) _).trans (h.mono sM);clear j k s h;go_upto_region 11 with(fail);have v:IsL (aC g #[.bool ng,.slice n (nd N) u,.int .i64 r] 119) n (nd N) N:=i3.below (Zo _) ((Zx _ g).alloc (Zo _) _);have o:Np w w (aC g #[.bool ng,.slice n (nd N) u,.int .i64 r] 119):=G.alloc oM _
  go_region_held3(λw'=>(w' (aD g 0)=some (.bool ng)/\w' (aD g 1)=some (.slice n (nd N) u)/\w' (aD g 2)=some (.int .i64 r)))
   (first
    |exact H
    |exact p
    |(refine⟨?_,?_,?_⟩<;>(go_simp;done))
    |go_keep)
   (first
    |(go_at_call 64;refine(Ec.out _).mono ?_;rintro e l⟨A4,c4,rfl,n4_,m4_,i4,d⟩;have p:l (aD g 0)=some (.bool ng)/\l (aD g 1)=some (.slice n (nd N) u)/\l (aD g 2)=some (.int .i64 r):=(by refine⟨ae d ?_,ae d ?_,ae d ?_⟩<;>(go_simp;done));have i:(l (aD w 0)=some (.int .u64 0)/\l (aD w 1)=some (.int .i64 0)/\l (aD w 2)=some (.bool false)):=(by refine⟨ae d ?_,ae d ?_,ae d ?_⟩<;>(go_simp;done));have t:(l.frozen? (aD w 0)=false/\l.frozen? (aD w 1)=false/\l.frozen? (aD w 2)=false):=(by refine⟨?_,?_,?_⟩<;>(rw[d.frozen (by first|(simp;done)|(simp;omega))];go_simp;done));have I:IsL l n (nd N) N:=(by first|exact v.below (Zo _) d|exact(show IsL (aC g #[.bool ng,.slice n (nd N) u,.int .i64 r] 119).drew n (nd N) N from v).below (Zo _) d);have q:Np w w l:=(by first|exact o.trans (d.mono o.size)|exact o.drew.trans (d.mono o.size)))
    |(go_at_call 63;refine(AD.out _ _ _ _ _ ?_ ?_).mono ?_;exact I;exact i4;rintro e C⟨rfl,f⟩;have H:C (aD g 0)=some (.bool ng)/\C (aD g 1)=some (.slice n (nd N) u)/\C (aD g 2)=some (.int .i64 r):=⟨ae f p.1,ae f p.2.1,ae f p.2.2⟩;have hR0:=ae f i.1;have hR1:=ae f i.2.1;have hR2:=ae f i.2.2;have hQ0:=aq f i.1 t.1;have hQ1:=aq f i.2.1 t.2.1;have hQ2:=aq f i.2.2 t.2.2;have hBc:Np w w C:=(by first|exact q.trans (f.mono q.size)|exact q.drew.trans (f.mono q.size))))
  go_wp2_with fail
  exact bR ⟨rfl,cB⟩
end
section
open Go.RowKit
def AB(a:Nat):Mod (exN a):=by have:=dU a;unfold Mod;omega
def NG(a b:Nat):bl (exN a*exN b)<=106:=by have:=b9 (exN a) (exN b);have:=dU a;have:=dU b;omega
def Ht{g:Bool}{x:Nat}(h:x<9223372036854775808):IntKind.u64.wrap ((aF g:Int)+(x:Int))=((aF g+x:Nat):Int):=by
 cases g
 .have e:aF false=0:=rfl;rw[e,ZV];omega
 have e:aF true=9223372036854775808:=rfl;rw[e,ZV];omega
def Io(m a b c:Nat)(z:m<5)(o:U64 a)(p:U64 b)(q:U64 c)(I:af a<4)(J:af b<4)(E:af c<4)(w:AK):Bf prog 49 #[iU a,iU b,iU c,iI m] w (ah (kj m a b c).1 (kj m a b c).2 false w):=by
 have d:=Zp (λW=>bN a o W);have f:=Zp (λW=>bN b p W);have h:=Zp (λW=>bN c q W);have i:=jP o p;have F:=Ah (aE a !=aE b);have r:=Oz (aE a !=aE b);by_cases s:af a=3/\af b=0
 .have e:kj m a b c=(9221120237041090560,16):=by unfold kj;rw[ZC (.inl s)]
  rw[e];rw[s.1]at d;rw[s.2]at f;exact FW m a b c _ d f h _ i w
 by_cases t:af a=0/\af b=3
 .have e:kj m a b c=(9221120237041090560,16):=by unfold kj;rw[ZC (.inr t)]
  rw[e];rw[t.1]at d;rw[t.2]at f;exact FU m a b c _ d f h _ i w
 have G:kj m a b c=if af a=3\/af b=3 then jO m (aF (aE a !=aE b)+9218868437227405312) c
  else if af c=3 then(c,0)
  else gU m (aE a !=aE b) (aE c) (val (exN a*exN b) (exE a+exE b)) (val (exN c) (exE c)):=by unfold kj;rw[Zr oM]
 rw[G];have C:=Ht (g:=aE a !=aE b) (x:=9218868437227405312) oM;generalize H:aF (aE a !=aE b)+9218868437227405312=bi at*;have D:Hid (∀W,Bf prog 46 #[iU bi,iU c,iI m] W (ah (jO m bi c).1 (jO m bi c).2 false W)):=λW=>th m bi c z r q oM E W;by_cases j:af a=3
 .rw[ZC (.inl j)];rw[j]at d;exact LY m a b c _ _ d f h _ i _ C _ _ D (nef (n:=0) oM) w
 by_cases k:af b=3
 .rw[ZC (.inr k)];rw[k]at f;exact LX m a b c _ _ d f h _ i _ C _ _ D (nef (n:=0) oM) (nef (n:=3) j) w
 rw[Zr oM];by_cases l:af c=3
 .rw[ZC l];rw[l]at h;exact L2 m a b c _ _ d f h _ i (nef (n:=3) j) (nef (n:=3) k) w
 rw[Zr l];have K:=aL a;have L:=aL b;have M:=aL c;have d1:=NG a b;have d2:=dU c;exact LZ m a b c _ _ _ d f h _ i _ _ _ _ _ _ _ _ _ _ _ _ _ _ (λW=>bx a o W) (λW=>bx b p W) (λW=>bx c q W)
  (λW A B u cb v y=>kB _ _ A B u cb _ _ _ _ W v y (AB a) (AB b) (by rw[ZZ];omega))
  (λW A B u cb v y=>tf _ _ A B u cb _ _ m _ _ W v y z oM oM oM oM oM oM) (nef (n:=3) j) (nef (n:=3) k) (nef (n:=3) l) _ rfl w
def NW{m a b c:Nat}(d:U64 a)(e:U64 b)(f:U64 c):gY 5 m a b c:=
 fY dC dC (λargs w=>call134 args w) d e f λg k=>by
  obtain⟨h,i,j⟩:=Tc k;exact⟨_,_,MY m a b c,λW=>Er 5 m a b c g d e f h i j W,λl W=>Sp m a b c _ _ oM d e f l (λW=>Io m a b c g d e f h i j W) W⟩
end
section
open Go.RowKit
def Ft(m a:Nat)(b:PC 43 #[iU a] (iI 0))(w:AK):
 Bf prog 51 #[iI 6,iU a,iI m] w (ah a 0 false w):=by
 go_enter func51,ntmps51
 go_wp2_with fail
 refine gW (b.out _) ?_
 go_wp2_with fail
 all_goals exact bR ⟨rfl,cB⟩
def Fu(m a b:Nat)(d:PC 43 #[iU a] (iI (b:Int)))(ng:((a:Int)/9223372036854775808==1))(c:((b:Int)==0)=false)(w:AK):
 Bf prog 51 #[iI 6,iU a,iI m] w (ah 9221120237041090560 16 false w):=by
 go_enter func51,ntmps51
 go_wp2_with fail
 refine gW (d.out _) ?_
 go_wp2_with fail
 all_goals exact bR ⟨rfl,cB⟩
def Fv(m a:Nat)(b:PC 43 #[iU a] (iI 3))(ng:((a:Int)/9223372036854775808==1)=false)(w:AK):
 Bf prog 51 #[iI 6,iU a,iI m] w (ah a 0 false w):=by
 go_enter func51,ntmps51
 go_wp2_with fail
 refine gW (b.out _) ?_
 go_wp2_with fail
 all_goals exact bR ⟨rfl,cB⟩
def Fw(m a h:Nat)(v:PC 43 #[iU a] (iI (h:Int)))(ng:((a:Int)/9223372036854775808==1)=false)(k l:Bool)(Na n o:Nat)(p q:Int)(r:Nat->Prop)(x:Hid (∀W,Bf prog 64 #[iU a] W (aP k Na p W)))(P:Hid (∀W A y,IsL W A (nd Na) Na->Bf prog 68 #[aO k A Na y p] W (λe w'=>∃X,r X/\aP l X q W e w')))(F:Hid (∀W X A c,r X->IsL W A (nd X) X->Bf prog 65 #[aO l A X c q,iI m] W (ah n o false W)))(s:((h:Int)==0)=false)(t:((h:Int)==3)=false)(w:AK):
 Bf prog 51 #[iI 6,iU a,iI m] w (ah n o false w):=by
 go_enter func51,ntmps51
 go_wp2_with fail
 refine gW (v.out _) ?_
 go_wp2_with fail
 refine(x.out _).mono ?_;rintro e I⟨J,K,rfl,z,B,u,d⟩
 go_wp2_with fail
 refine(P.out _ _ _ u).mono ?_;rintro e L⟨X,C,M,N,rfl,D,E,G,f⟩;clear u
 go_wp2_with fail
 refine gB (F.out _ _ _ _ C G) λg i=>?_;have j:=d.size;simp at j;have H:=f.size;have b:=(d.trans (f.mono d.size)).trans (i.mono (Zz d.size f.size));have iC:cF g w 0 (iU 0):=cK b;have iN:fZ g w 0:=fK b;have iz:cF g w 1 (iI 0):=cK b;have iM:fZ g w 1:=fK b;have iy:cF g w 2 (.bool false):=cK b;have iL:fZ g w 2:=fK b
 go_wp2_with fail
 all_goals exact bR ⟨rfl,cB⟩
def Fx(m a:Nat)(c:PC 43 #[iU a] (iI 0))(b:Nat)(d:Na .or .u64 (a:Int) 9218868437227405312=b)(w:AK):
 Bf prog 51 #[iI 7,iU a,iI m] w (ah b 8 false w):=by
 go_enter func51,ntmps51
 go_wp2_with fail
 refine gW (c.out _) ?_
 go_wp2_with fail
 all_goals exact bR ⟨rfl,cB⟩
def Fy(m a b:Nat)(d:PC 43 #[iU a] (iI (b:Int)))(ng:((a:Int)/9223372036854775808==1))(c:((b:Int)==0)=false)(w:AK):
 Bf prog 51 #[iI 7,iU a,iI m] w (ah 9221120237041090560 16 false w):=by
 go_enter func51,ntmps51
 go_wp2_with fail
 refine gW (d.out _) ?_
 go_wp2_with fail
 all_goals exact bR ⟨rfl,cB⟩
def FA(m a:Nat)(b:PC 43 #[iU a] (iI 3))(ng:((a:Int)/9223372036854775808==1)=false)(w:AK):
 Bf prog 51 #[iI 7,iU a,iI m] w (ah 0 0 false w):=by
 go_enter func51,ntmps51
 go_wp2_with fail
 refine gW (b.out _) ?_
 go_wp2_with fail
 all_goals exact bR ⟨rfl,cB⟩
def FB(m a h:Nat)(v:PC 43 #[iU a] (iI (h:Int)))(ng:((a:Int)/9223372036854775808==1)=false)(k l:Bool)(Na n o:Nat)(p q:Int)(r:Nat->Prop)(x:Hid (∀W,Bf prog 64 #[iU a] W (aP k Na p W)))(P:Hid (∀W A y,IsL W A (nd Na) Na->Bf prog 71 #[aO k A Na y p] W (λe w'=>∃X,r X/\aP l X q W e w')))(F:Hid (∀W X A c,r X->IsL W A (nd X) X->Bf prog 65 #[aO l A X c q,iI m] W (ah n o false W)))(s:((h:Int)==0)=false)(t:((h:Int)==3)=false)(w:AK):
 Bf prog 51 #[iI 7,iU a,iI m] w (ah n o false w):=by
 go_enter func51,ntmps51
 go_wp2_with fail
 refine gW (v.out _) ?_
 go_wp2_with fail
 refine(x.out _).mono ?_;rintro e I⟨J,K,rfl,z,B,u,d⟩
 go_wp2_with fail
 refine(P.out _ _ _ u).mono ?_;rintro e L⟨X,C,M,N,rfl,D,E,G,f⟩;clear u
 go_wp2_with fail
 refine gB (F.out _ _ _ _ C G) λg i=>?_;have j:=d.size;simp at j;have H:=f.size;have b:=(d.trans (f.mono d.size)).trans (i.mono (Zz d.size f.size));have iC:cF g w 0 (iU 0):=cK b;have iN:fZ g w 0:=fK b;have iz:cF g w 1 (iI 0):=cK b;have iM:fZ g w 1:=fK b;have iy:cF g w 2 (.bool false):=cK b;have iL:fZ g w 2:=fK b
 go_wp2_with fail
 all_goals exact bR ⟨rfl,cB⟩
def FD(m a:Nat)(b:PC 43 #[iU a] (iI 3))(w:AK):
 Bf prog 51 #[iI 8,iU a,iI m] w (ah a 0 false w):=by
 go_enter func51,ntmps51
 go_wp2_with fail
 refine gW (b.out _) ?_
 go_wp2_with fail
 all_goals exact bR ⟨rfl,cB⟩
def FC(m a:Nat)(b:PC 43 #[iU a] (iI 0))(w:AK):
 Bf prog 51 #[iI 8,iU a,iI m] w (ah a 0 false w):=by
 go_enter func51,ntmps51
 go_wp2_with fail
 refine gW (b.out _) ?_
 go_wp2_with fail
 all_goals exact bR ⟨rfl,cB⟩
def FE(m a h:Nat)(v:PC 43 #[iU a] (iI (h:Int)))(k l:Bool)(Na n o:Nat)(p q:Int)(r:Nat->Prop)(x:Hid (∀W,Bf prog 64 #[iU a] W (aP k Na p W)))(P:Hid (∀W A y,IsL W A (nd Na) Na->Bf prog 70 #[aO k A Na y p] W (λe w'=>∃X,r X/\aP l X q W e w')))(F:Hid (∀W X A c,r X->IsL W A (nd X) X->Bf prog 65 #[aO l A X c q,iI m] W (ah n o false W)))(s:((h:Int)==0)=false)(t:((h:Int)==3)=false)(w:AK):
 Bf prog 51 #[iI 8,iU a,iI m] w (ah n o false w):=by
 go_enter func51,ntmps51
 go_wp2_with fail
 refine gW (v.out _) ?_
 go_wp2_with fail
 refine(x.out _).mono ?_;rintro e I⟨J,K,rfl,z,B,u,d⟩
 go_wp2_with fail
 refine(P.out _ _ _ u).mono ?_;rintro e L⟨X,C,M,N,rfl,D,E,G,f⟩;clear u
 go_wp2_with fail
 refine gB (F.out _ _ _ _ C G) λg i=>?_;have j:=d.size;simp at j;have H:=f.size;have b:=(d.trans (f.mono d.size)).trans (i.mono (Zz d.size f.size));have iC:cF g w 0 (iU 0):=cK b;have iN:fZ g w 0:=fK b;have iz:cF g w 1 (iI 0):=cK b;have iM:fZ g w 1:=fK b;have iy:cF g w 2 (.bool false):=cK b;have iL:fZ g w 2:=fK b
 go_wp2_with fail
 all_goals exact bR ⟨rfl,cB⟩
end
section
open Go.RowKit
def LM(m a:Nat)(t:m<5)(s:U64 a)(w:AK):Bf prog 51 #[iI 6,iU a,iI m] w (ah (dV m a).1 (dV m a).2 false w):=by
 have d:=Zp (λW=>bN a s W);have C:=bC (x:=a);by_cases b:af a=0
 .have e:dV m a=(a,0):=by unfold dV;rw[ZC b]
  rw[e];rw[b]at d;exact Ft m a d w
 cases f:aE a with
 |true=>
  have e:dV m a=(9221120237041090560,16):=by unfold dV;rw[Zr b,ZC f]
  rw[e];exact Fu m a _ d ((eZ a).trans f) (nef (n:=0) b) w
 |false=>
  by_cases i:af a=3
  ·(have e:dV m a=(a,0):=by unfold dV;rw[Zr b,Zr (by rw[f];decide),ZC i]);rw[e];rw[i]at d;exact Fv m a d ((eZ a).trans f) w
  have e:dV m a=vw m a:=by unfold dV;rw[Zr b,Zr (by rw[f];decide),Zr i]
  rw[e];have j:exN a≠0:=oM;have D:=aL a;have E:=dU a;obtain⟨k,h,l,o,u⟩:∃(k:Nat)(h:Int),((k=130/\((exE a-130).tmod 2 !=0)=false/\Nq (exE a-130)=exE a-130/\(exE a-130).tdiv 2=h)\/(k=131/\((exE a-130).tmod 2 !=0)/\Nq (exE a-130)=exE a-130/\Nq (exE a-131)=exE a-131/\(exE a-131).tdiv 2=h))/\2*h=exE a-k/\(k=130\/k=131):=by
   rcases(show(exE a-130)%2=0\/(exE a-130)%2=1 by omega)with h|h
   .exact⟨130,(exE a-130)/2,.inl ⟨rfl,lF h,bJ oM oM,gZ h⟩,oM,.inl rfl⟩
   exact⟨131,(exE a-131)/2,.inr ⟨rfl,oz oM,bJ oM oM,bJ oM oM,gZ oM⟩,oM,.inr rfl⟩
  have v:bl (exN a*2^k)=bl (exN a)+k:=bO j;have p:exN a*2^k≠0:=by have:=abr (aaK j) (Zy k);omega
  exact Fw m a _ d ((eZ a).trans f) _ _ _ _ _ _ (h-1) (λn=>∃X,bA (exN a*2^k) X/\n=mk2 X (true&&decide (X*X=exN a*2^k))) (λW=>bx a s W)
   (λW A y q=>(DI _ A y _ k _ h (h-1) W q (by unfold Sm;omega) l (bJ oM oM) (bJ oM oM)).mono λe w' z=>by
    obtain⟨X,g,B⟩:=z;exact⟨_,⟨X,g,rfl⟩,B⟩)
   (λW n A c r q=>by
    obtain⟨X,g,rfl⟩:=r;have F:=xM (w:=(true&&decide (X*X=exN a*2^k))) (xv g);have:=kl (ng:=false) (e:=h-1) (xL (w:=(true&&decide (X*X=exN a*2^k))) (oP g p)) t oM oM oM W A c q;rw[HW j o oM oM g]at this;exact this) (nef (n:=0) b) (nef (n:=3) i) w
def LL(m a:Nat)(u:m<5)(j:U64 a)(w:AK):Bf prog 51 #[iI 7,iU a,iI m] w (ah (cN m a).1 (cN m a).2 false w):=by
 have d:=Zp (λW=>bN a j W);have G:=bC (x:=a);by_cases b:af a=0
 .have e:cN m a=(aF (aE a)+9218868437227405312,8):=by unfold cN;rw[ZC b]
  rw[e];rw[b]at d;have g:=ig (aE a) 9218868437227405312 oM;rw[<-kG j b]at g;rw[<-kG j b];exact Fx m a d _ g w
 cases f:aE a with
 |true=>
  have e:cN m a=(9221120237041090560,16):=by unfold cN;rw[Zr b,ZC f]
  rw[e];exact Fy m a _ d ((eZ a).trans f) (nef (n:=0) b) w
 |false=>
  by_cases l:af a=3
  ·(have e:cN m a=(0,0):=by unfold cN;rw[Zr b,Zr (by rw[f];decide),ZC l]);rw[e];rw[l]at d;exact FA m a d ((eZ a).trans f) w
  have e:cN m a=pU m a:=by unfold cN;rw[Zr b,Zr (by rw[f];decide),Zr l]
  rw[e];have t:exN a≠0:=oM;have H:=aL a;have I:=dU a;obtain⟨K0,v⟩:∃K0:Nat,K0=240+bl (exN a):=⟨_,rfl⟩;obtain⟨k,h,o,p,y⟩:∃(k:Nat)(h:Int),((k=K0/\((exE a+K0).tmod 2 !=0)=false/\Nq (exE a+K0)=exE a+K0/\Nq (-(K0:Int)-exE a)=-(K0:Int)-exE a/\(-(K0:Int)-exE a).tdiv 2=h)\/(k=K0+1/\((exE a+K0).tmod 2 !=0)/\Nq (exE a+K0)=exE a+K0/\Nq (-((K0:Int)+1)-exE a)=-((K0:Int)+1)-exE a/\(-((K0:Int)+1)-exE a).tdiv 2=h))/\2*h=-(k:Int)-exE a/\(k=K0\/k=K0+1):=by
   rcases(show(exE a+K0)%2=0\/(exE a+K0)%2=1 by omega)with h|h
   .exact⟨K0,(-(K0:Int)-exE a)/2,.inl ⟨rfl,lF h,bJ oM oM,bJ oM oM,gZ oM⟩,oM,.inl rfl⟩
   exact⟨K0+1,(-((K0:Int)+1)-exE a)/2,.inr ⟨rfl,oz oM,bJ oM oM,bJ oM oM,gZ oM⟩,oM,.inr rfl⟩
  have z:=jN k;have q:2^k/exN a≠0:=by
   have B:exN a<=2^k:=Zz (abw (br.1 (Zo _))) (aaa dC oM);have:=adO B (aaK t);omega
  have C:bl (2^k/exN a)<=bl (2^k):=e7 (aaM _ _);exact FB m a _ d ((eZ a).trans f) _ _ _ _ _ _ (h-1) (λn=>∃X,bA (2^k/exN a) X/\n=mk2 X (decide (2^k%exN a=0)&&decide (X*X=2^k/exN a))) (λW=>bx a j W)
   (λW A D r=>(Ih _ A D _ k K0 _ h (h-1) W r (by unfold Sm;omega) oM (by unfold Sm;omega) oM oM oM o (bJ oM oM) (bJ oM oM)).mono λe w' E=>by
    obtain⟨X,i,F⟩:=E;exact⟨_,⟨X,i,rfl⟩,F⟩)
   (λW n A c s r=>by
    obtain⟨X,i,rfl⟩:=s;have J:=xM (w:=(decide (2^k%exN a=0)&&decide (X*X=2^k/exN a))) (xv i);have:=kl (ng:=false) (e:=h-1) (xL (w:=(decide (2^k%exN a=0)&&decide (X*X=2^k/exN a))) (oP i q)) u oM oM oM W A c r;rw[vE t p oM oM i]at this;exact this) (nef (n:=0) b) (nef (n:=3) l) w
def LK(m a:Nat)(s:m<5)(p:U64 a)(w:AK):Bf prog 51 #[iI 8,iU a,iI m] w (ah (fJ m a).1 (fJ m a).2 false w):=by
 have b:=Zp (λW=>bN a p W);have C:=bC (x:=a);by_cases g:af a=3
 .have e:fJ m a=(a,0):=by unfold fJ;rw[ZC (.inl g)]
  rw[e];rw[g]at b;exact FD m a b w
 by_cases i:af a=0
 .have e:fJ m a=(a,0):=by unfold fJ;rw[ZC (.inr i)]
  rw[e];rw[i]at b;exact FC m a b w
 have e:fJ m a=AY m a:=by unfold fJ;rw[Zr oM]
 rw[e];have q:exN a≠0:=oM;have D:=aL a;have E:=dU a;obtain⟨r,t,u⟩:=EG a;have v:cbK a=190+((exE a-190)%3).toNat:=rfl;obtain⟨h,d⟩:∃h:Int,h=(exE a-cbK a)/3:=⟨_,rfl⟩;have y:bl (exN a*2^cbK a)=bl (exN a)+cbK a:=bO q;have k:exN a*2^cbK a≠0:=by have:=abr (aaK q) (Zy (cbK a));omega
 exact FE m a _ b _ _ _ _ _ _ (h-1) (λn=>∃X,kr (exN a*2^cbK a) X/\n=mk2 X (decide (X*(X*X)=exN a*2^cbK a))) (λW=>bx a p W)
  (λW A z l=>(L8 _ A z _ (cbK a) _ h (h-1) W l (by unfold Sm;omega) t u (λj g F=>oz oM) (lF r) (λj G=>bJ oM oM) (by rw[d];exact gZ r) (bJ oM oM) (bJ oM oM)).mono λe w' d=>by
   obtain⟨X,f,B⟩:=d;exact⟨_,⟨X,f,rfl⟩,B⟩)
  (λW n A c o l=>by
   obtain⟨X,f,rfl⟩:=o;have H:=xM (w:=decide (X*(X*X)=exN a*2^cbK a)) (UJ f);have:=kl (ng:=aE a) (e:=h-1) (xL (w:=decide (X*(X*X)=exN a*2^cbK a)) (KL f k)) s oM oM oM W A c l;rw[d,KH f,<-d]at this;exact this) (nef (n:=0) i) (nef (n:=3) g) w
end
section
open Go.RowKit
variable{a b c:Nat}
def HZ(m a:Nat):(dV m a).2<256:=by
 unfold dV;split;exact(by decide:(0:Nat)<256);split;exact(by decide:(16:Nat)<256);split;exact(by decide:(0:Nat)<256);exact gm _ _ _ _ _
def Fq(m a:Nat):(cN m a).2<256:=by
 unfold cN;split;exact(by decide:(8:Nat)<256);split;exact(by decide:(16:Nat)<256);split;exact(by decide:(0:Nat)<256);exact gm _ _ _ _ _
def KJ(m a:Nat):(fJ m a).2<256:=by
 unfold fJ;split;exact(by decide:(0:Nat)<256);exact gm _ _ _ _ _
def NU{m:Nat}(d:U64 a)(e:U64 b)(f:U64 c):gY 6 m a b c:=
 fY dC dC (λargs w=>call135 args w) d e f λg i=>
  ⟨_,_,HZ m a,λW=>yV 6 m a b c g d W,λh W=>So m a b c _ _ oM d e f h (λW=>LM m a g d W) W⟩
def NT{m:Nat}(d:U64 a)(e:U64 b)(f:U64 c):gY 7 m a b c:=
 fY dC dC (λargs w=>call136 args w) d e f λg i=>
  ⟨_,_,Fq m a,λW=>vF 7 m a b c g d W,λh W=>Sl m a b c _ _ oM d e f h (λW=>LL m a g d W) W⟩
def NS{m:Nat}(d:U64 a)(e:U64 b)(f:U64 c):gY 8 m a b c:=
 fY dC dC (λargs w=>call137 args w) d e f λg i=>
  ⟨_,_,KJ m a,λW=>AX 8 m a b c g d W,λh W=>Sk m a b c _ _ oM d e f h (λW=>LK m a g d W) W⟩
end
section
open Go.RowKit
variable{W:AK}{b:Nat}{c1 c2:Aq}
def K3(W:AK)(b:Nat)(c0 c1 c2:Aq):Prop:=W (aD b 0)=c0/\W (aD b 1)=c1/\W (aD b 2)=c2
def K3.lt{c0:Aq}(h:K3 W b c0 c1 c2):b<W:=aaz _ _ h.1
def K3.call{d:AK}{c0:Aq}(h:K3 W b c0 c1 c2)(a:Np W W d):K3 d b c0 c1 c2:=by
 have c:=h.lt;obtain⟨e,f,g⟩:=h;exact⟨(a.cell (p:=aD b 0) c).trans e,(a.cell (p:=aD b 1) c).trans f,(a.cell (p:=aD b 2) c).trans g⟩
def K3.new(W:AK)(t:E1)(c0 c1 c2:Aq):K3 (W.alloc (.cells #[c0,c1,c2] t)) W c0 c1 c2:=by
 refine⟨?_,?_,?_⟩<;>go_simp
def zj(m a b c:Nat)(d:PC 43 #[.int .u64 a] (.int .i64 3))(e:PC 43 #[.int .u64 b] (.int .i64 (c:Int)))(w:AK):
 Bf prog 50 #[.int .u64 a,.int .u64 b,.int .i64 m] w (ah 9218868437227405312 0 false w):=by
 go_enter func50,ntmps50
 go_wp2_with(first|(go_at_call_of 43 (Value.int IntKind.u64 a);refine gW (d.out _) ?_)|(go_at_call_of 43 (Value.int IntKind.u64 b);refine gW (e.out _) ?_))
 all_goals exact bR ⟨rfl,cB⟩
def zi(m a b c:Nat)(e:PC 43 #[.int .u64 a] (.int .i64 (c:Int)))(f:PC 43 #[.int .u64 b] (.int .i64 3))(d:((c:Int)==3)=false)(w:AK):
 Bf prog 50 #[.int .u64 a,.int .u64 b,.int .i64 m] w (ah 9218868437227405312 0 false w):=by
 go_enter func50,ntmps50
 go_wp2_with(first|(go_at_call_of 43 (Value.int IntKind.u64 a);refine gW (e.out _) ?_)|(go_at_call_of 43 (Value.int IntKind.u64 b);refine gW (f.out _) ?_))
 all_goals exact bR ⟨rfl,cB⟩
def Fs(m a b:Nat)(c:PC 43 #[.int .u64 a] (.int .i64 0))(d:PC 43 #[.int .u64 b] (.int .i64 0))(w:AK):
 Bf prog 50 #[.int .u64 a,.int .u64 b,.int .i64 m] w (ah 0 0 false w):=by
 go_enter func50,ntmps50
 go_wp2_with(first|(go_at_call_of 43 (Value.int IntKind.u64 a);refine gW (c.out _) ?_)|(go_at_call_of 43 (Value.int IntKind.u64 b);refine gW (d.out _) ?_))
 all_goals exact bR ⟨rfl,cB⟩
def B7(m a b y K:Nat)(Ka:PC 43 #[.int .u64 a] (.int .i64 (y:Int)))(Kb:PC 43 #[.int .u64 b] (.int .i64 (K:Int)))(z C L:Bool)(Na h Np Nq s M N:Nat)(D E l n O P:Int)(R:Nat->Prop)(T:Hid (∀W,Bf prog 64 #[.int .u64 a] W (aP z Na D W)))(U:Hid (∀W,Bf prog 64 #[.int .u64 b] W (aP C h E W)))(Pa:Hid (∀W A B i cb,IsL W A (nd Na) Na->IsL W B (nd Na) Na->Bf prog 66 #[aO z A Na i D,aO z B Na cb D] W (aP false Np l W)))
 (Pb:Hid (∀W A B i cb,IsL W A (nd h) h->IsL W B (nd h) h->Bf prog 66 #[aO C A h i E,aO C B h cb E] W (aP false Nq n W)))
 (S:Hid (∀W A B i cb,IsL W A (nd Np) Np->IsL W B (nd Nq) Nq->Bf prog 69 #[aO false A Np i l,aO false B Nq cb n] W (aP L s O W)))
 (Q:Hid (∀W A i,IsL W A (nd s) s->Bf prog 68 #[aO L A s i O] W (λe w'=>∃X,R X/\aP false X P W e w')))
 (F:Hid (∀W X A c,R X->IsL W A (nd X) X->Bf prog 65 #[aO false A X c P,.int .i64 m] W (ah M N false W)))(V:((y:Int)==0)=false)(Y:((y:Int)==3)=false)(Z:((K:Int)==3)=false)(w:AK):
 Bf prog 50 #[.int .u64 a,.int .u64 b,.int .i64 m] w (ah M N false w):=by
 go_enter func50,ntmps50
 go_wp2_with(first|(go_at_call_of 43 (Value.int IntKind.u64 a);refine gW (Ka.out _) ?_)|(go_at_call_of 43 (Value.int IntKind.u64 b);refine gW (Kb.out _) ?_))
 refine(T.out _).mono ?_;rintro e w1⟨A1,c1,rfl,n1_,m1_,t,f⟩;have d:=f;clear f
 go_wp2_with fail
 refine(T.out _).mono ?_;rintro e w2⟨A2,c2,rfl,n2_,m2_,i2,f⟩;replace t:=t.below (Zo _) f;replace d:=d.trans (f.mono d.size);clear f
 go_wp2_with fail
 refine(Pa.out _ _ _ _ _ t i2).mono ?_;rintro e G⟨o,H,rfl,n3_,m3_,g,f⟩;replace d:=d.trans (f.mono d.size);clear f;clear t i2
 go_wp2_with fail
 have p:IsL (aC G #[.bool false,.slice o (nd Np) H,.int .i64 l] 119) o (nd Np) Np:=g.below (Zo _) ((Zx _ G).alloc (Zo _) _);replace d:=d.alloc d.size ((.cells #[.bool false,.slice o (nd Np) H,.int .i64 l] 119));clear g;refine(U.out _).mono ?_;rintro e w4⟨A4,c4,rfl,n4_,m4_,u,f⟩;have g:=p.below (Zo _) f;have z4:K3 w4 G (.bool false) (.slice o (nd Np) H) (.int .i64 l):=K3.call (K3.new _ _ _ _ _) f;clear p;replace d:=d.trans (f.mono d.size);clear f
 go_wp2_with fail
 refine(U.out _).mono ?_;rintro e w5⟨A5,c5,rfl,n5_,m5_,i5,f⟩;replace g:=g.below (Zo _) f;replace u:=u.below (Zo _) f;have z5:=K3.call z4 f;clear z4;replace d:=d.trans (f.mono d.size);clear f
 go_wp2_with fail
 refine(Pb.out _ _ _ _ _ u i5).mono ?_;rintro e v⟨x,I,rfl,n6_,m6_,i6,f⟩;replace g:=g.below (Zo _) f;have z6:=K3.call z5 f;clear z5;have hl6:=z6.lt;replace d:=d.trans (f.mono d.size);clear f;clear u i5;have j:=d.alloc d.size ((.cells #[.bool false,.slice x (nd Nq) I,.int .i64 n] 119));have q:IsL (aC v #[.bool false,.slice x (nd Nq) I,.int .i64 n] 119) o (nd Np) Np:=g.below (Zo _) ((Zx _ v).alloc (Zo _) _);have r:IsL (aC v #[.bool false,.slice x (nd Nq) I,.int .i64 n] 119) x (nd Nq) Nq:=i6.below (Zo _) ((Zx _ v).alloc (Zo _) _);clear d g i6;obtain⟨z0,z1,z2⟩:=z6
 go_wp2_with fail
 clear z0 z1 z2;refine(S.out _ _ _ _ _ q r).mono ?_;rintro e w7⟨A7,c7,rfl,n7_,m7_,i7,f⟩;clear q r;have d:=j.trans (f.mono j.size);clear f j
 go_wp2_with fail
 refine(Q.out _ _ _ i7).mono ?_;rintro e w8⟨X,hX,A8,c8,rfl,n8_,m8_,i8,f⟩;replace d:=d.trans (f.mono d.size);clear f i7
 go_wp2_with fail
 refine gB (F.out _ _ _ _ hX i8) λk f=>?_;replace d:=d.trans (f.mono d.size);clear f hX i8;have J:=d.size;simp at J;have GB:k (aD w 0)=some (.int .u64 0):=cK d;have GF:k.frozen? (aD w 0)=false:=fK d;have GA:k (aD w 1)=some (.int .i64 0):=cK d;have GD:k.frozen? (aD w 1)=false:=fK d;have Gz:k (aD w 2)=some (.bool false):=cK d;have GC:k.frozen? (aD w 2)=false:=fK d
 go_wp2_with fail
 all_goals exact bR ⟨rfl,cB⟩
def B6(m a b y:Nat)(Ka:PC 43 #[.int .u64 a] (.int .i64 0))(Kb:PC 43 #[.int .u64 b] (.int .i64 (y:Int)))(z C K:Bool)(Na h Np Nq s L M:Nat)(D E l n N O:Int)(P:Nat->Prop)(R:Hid (∀W,Bf prog 64 #[.int .u64 a] W (aP z Na D W)))(T:Hid (∀W,Bf prog 64 #[.int .u64 b] W (aP C h E W)))(Pa:Hid (∀W A B i cb,IsL W A (nd Na) Na->IsL W B (nd Na) Na->Bf prog 66 #[aO z A Na i D,aO z B Na cb D] W (aP false Np l W)))
 (Pb:Hid (∀W A B i cb,IsL W A (nd h) h->IsL W B (nd h) h->Bf prog 66 #[aO C A h i E,aO C B h cb E] W (aP false Nq n W)))
 (S:Hid (∀W A B i cb,IsL W A (nd Np) Np->IsL W B (nd Nq) Nq->Bf prog 69 #[aO false A Np i l,aO false B Nq cb n] W (aP K s N W)))
 (Q:Hid (∀W A i,IsL W A (nd s) s->Bf prog 68 #[aO K A s i N] W (λe w'=>∃X,P X/\aP false X O W e w')))
 (F:Hid (∀W X A c,P X->IsL W A (nd X) X->Bf prog 65 #[aO false A X c O,.int .i64 m] W (ah L M false W)))(U:((y:Int)==0)=false)(V:((y:Int)==3)=false)(w:AK):
 Bf prog 50 #[.int .u64 a,.int .u64 b,.int .i64 m] w (ah L M false w):=by
 go_enter func50,ntmps50
 go_wp2_with(first|(go_at_call_of 43 (Value.int IntKind.u64 a);refine gW (Ka.out _) ?_)|(go_at_call_of 43 (Value.int IntKind.u64 b);refine gW (Kb.out _) ?_))
 refine(R.out _).mono ?_;rintro e w1⟨A1,c1,rfl,n1_,m1_,t,f⟩;have d:=f;clear f
 go_wp2_with fail
 refine(R.out _).mono ?_;rintro e w2⟨A2,c2,rfl,n2_,m2_,Y,f⟩;replace t:=t.below (Zo _) f;replace d:=d.trans (f.mono d.size);clear f
 go_wp2_with fail
 refine(Pa.out _ _ _ _ _ t Y).mono ?_;rintro e G⟨o,H,rfl,n3_,m3_,g,f⟩;replace d:=d.trans (f.mono d.size);clear f;clear t Y
 go_wp2_with fail
 have p:IsL (aC G #[.bool false,.slice o (nd Np) H,.int .i64 l] 119) o (nd Np) Np:=g.below (Zo _) ((Zx _ G).alloc (Zo _) _);replace d:=d.alloc d.size ((.cells #[.bool false,.slice o (nd Np) H,.int .i64 l] 119));clear g;refine(T.out _).mono ?_;rintro e w4⟨A4,c4,rfl,n4_,m4_,u,f⟩;have g:=p.below (Zo _) f;have Z:K3 w4 G (.bool false) (.slice o (nd Np) H) (.int .i64 l):=K3.call (K3.new _ _ _ _ _) f;clear p;replace d:=d.trans (f.mono d.size);clear f
 go_wp2_with fail
 refine(T.out _).mono ?_;rintro e w5⟨A5,c5,rfl,n5_,m5_,i5,f⟩;replace g:=g.below (Zo _) f;replace u:=u.below (Zo _) f;have z5:=K3.call Z f;clear Z;replace d:=d.trans (f.mono d.size);clear f
 go_wp2_with fail
 refine(Pb.out _ _ _ _ _ u i5).mono ?_;rintro e v⟨x,I,rfl,n6_,m6_,i6,f⟩;replace g:=g.below (Zo _) f;have z6:=K3.call z5 f;clear z5;have hl6:=z6.lt;replace d:=d.trans (f.mono d.size);clear f;clear u i5;have j:=d.alloc d.size ((.cells #[.bool false,.slice x (nd Nq) I,.int .i64 n] 119));have q:IsL (aC v #[.bool false,.slice x (nd Nq) I,.int .i64 n] 119) o (nd Np) Np:=g.below (Zo _) ((Zx _ v).alloc (Zo _) _);have r:IsL (aC v #[.bool false,.slice x (nd Nq) I,.int .i64 n] 119) x (nd Nq) Nq:=i6.below (Zo _) ((Zx _ v).alloc (Zo _) _);clear d g i6;obtain⟨z0,z1,z2⟩:=z6
 go_wp2_with fail
 clear z0 z1 z2;refine(S.out _ _ _ _ _ q r).mono ?_;rintro e w7⟨A7,c7,rfl,n7_,m7_,i7,f⟩;clear q r;have d:=j.trans (f.mono j.size);clear f j
 go_wp2_with fail
 refine(Q.out _ _ _ i7).mono ?_;rintro e w8⟨X,hX,A8,c8,rfl,n8_,m8_,i8,f⟩;replace d:=d.trans (f.mono d.size);clear f i7
 go_wp2_with fail
 refine gB (F.out _ _ _ _ hX i8) λk f=>?_;replace d:=d.trans (f.mono d.size);clear f hX i8;have J:=d.size;simp at J;have GB:k (aD w 0)=some (.int .u64 0):=cK d;have GF:k.frozen? (aD w 0)=false:=fK d;have GA:k (aD w 1)=some (.int .i64 0):=cK d;have GD:k.frozen? (aD w 1)=false:=fK d;have Gz:k (aD w 2)=some (.bool false):=cK d;have GC:k.frozen? (aD w 2)=false:=fK d
 go_wp2_with fail
 all_goals exact bR ⟨rfl,cB⟩
end
section
open Go.RowKit
def Fe{a b:Nat}{e1 e2:Int}(g:-5000<=e1)(i:-5000<=e2):(jc false false a b e1 e2).1=false/\val (jc false false a b e1 e2).2.1 (jc false false a b e1 e2).2.2=val a e1+val b e2/\((jc false false a b e1 e2).2.2=e1\/(jc false false a b e1 e2).2.2=e2)/\bl (jc false false a b e1 e2).2.1<=bl a+bl b+(e1-e2).toNat+(e2-e1).toNat+5:=by
 have c:∀x y E,val (x+y) E=val x E+val y E:=λx y E=>by unfold val;rw[abm]
 have f:∀x y,bl (x+y)<=bl x+bl y+1:=λx y=>by
  refine br.2 ?_;have g:=aN x;have i:=aN y;have j:2^bl x<=2^(bl x+bl y):=aaa dC oM;have k:2^bl y<=2^(bl x+bl y):=aaa dC oM;rw[aaO];omega
 unfold jc gP;by_cases h:e2<e1
 .rw[ZC h,ZC rfl];have e:val (a*2^(e1-e2).toNat) e2=val a e1:=by unfold val;rw[Z3,<-ZD];congr 2;omega
  refine⟨rfl,by rw[c,e],.inr rfl,?_⟩;have:=f (a*2^(e1-e2).toNat) b;have:=wL (a:=a) (d:=(e1-e2).toNat) (Zo _);show bl (a*2^(e1-e2).toNat+b)<=_;omega
 rw[Zr h,ZC rfl];have e:val (b*2^(e2-e1).toNat) e1=val b e2:=by unfold val;rw[Z3,<-ZD];congr 2;omega
 refine⟨rfl,by rw[c,e],.inl rfl,?_⟩;have:=f a (b*2^(e2-e1).toNat);have:=wL (a:=b) (d:=(e2-e1).toNat) (Zo _);show bl (a+b*2^(e2-e1).toNat)<=_;omega
def oN(a:Nat)(W:AK)(A B:Option Es)(b cb:Nat)(c:IsL W A (nd (exN a)) (exN a))(d:IsL W B (nd (exN a)) (exN a)):Bf prog 66 #[aO (aE a) A (exN a) b (exE a),aO (aE a) B (exN a) cb (exE a)] W (aP false (exN a*exN a) (exE a+exE a) W):=by
 have e:=aL a;have:=kB (aE a) (aE a) A B b cb (exN a) (exN a) (exE a) (exE a) W c d (rS a) (rS a) (by rw[ZZ];omega);rw[bne_self_eq_false]at this;exact this
def B8(m a b:Nat)(H:m<5)(t:U64 a)(u:U64 b)(w:AK):Bf prog 50 #[iU a,iU b,iI m] w (ah (ik m a b).1 (ik m a b).2 false w):=by
 have i:=Zp (λW=>bN a t W);have j:=Zp (λW=>bN b u W);have P:=bC (x:=a);have Q:=bC (x:=b);by_cases p:af a=3
 .have e:ik m a b=(9218868437227405312,0):=by unfold ik;rw[ZC (.inl p)]
  rw[e];rw[p]at i;exact zj m a b _ i j w
 by_cases r:af b=3
 .have e:ik m a b=(9218868437227405312,0):=by unfold ik;rw[ZC (.inr r)]
  rw[e];rw[r]at j;exact zi m a b _ i j (nef (n:=3) p) w
 by_cases s:af a=0/\af b=0
 .have e:ik m a b=(0,0):=by unfold ik;rw[Zr oM,ZC s]
  rw[e];rw[s.1]at i;rw[s.2]at j;exact Fs m a b i j w
 have e:ik m a b=Al m a b:=by unfold ik;rw[Zr oM,Zr s]
 rw[e];have R:=aL a;have T:=aL b;have U:=r5 (dU a);have V:=r5 (dU b);obtain⟨s1,s2,I,J⟩:=Fe (a:=exN a*exN a) (b:=exN b*exN b) (e1:=exE a+exE a) (e2:=exE b+exE b) oM oM;have S:=λW A B d cb f g=>zh false false A B d cb (exN a*exN a) (exN b*exN b) (exE a+exE a) (exE b+exE b) W f g oM oM oM oM oM oM;generalize jc false false (exN a*exN a) (exN b*exN b) (exE a+exE a) (exE b+exE b)=q at*;obtain⟨Y,n,E⟩:=q;simp only at s1 s2 I J S;subst s1;have D:val n E=tH a b:=s2;have v:n≠0:=by
  intro h;have:=Eo (a:=a) (b:=b) oM;rw[<-D,h]at this;exact this (by unfold val;rw[abM])
 obtain⟨k,h,y,z,K⟩:∃(k:Nat)(h:Int),((k=130/\((E-130).tmod 2 !=0)=false/\Nq (E-130)=E-130/\(E-130).tdiv 2=h)\/(k=131/\((E-130).tmod 2 !=0)/\Nq (E-130)=E-130/\Nq (E-131)=E-131/\(E-131).tdiv 2=h))/\2*h=E-k/\(k=130\/k=131):=by
  rcases(show(E-130)%2=0\/(E-130)%2=1 by omega)with h|h
  .exact⟨130,(E-130)/2,.inl ⟨rfl,lF h,bJ oM oM,gZ h⟩,oM,.inl rfl⟩
  exact⟨131,(E-131)/2,.inr ⟨rfl,oz oM,bJ oM oM,bJ oM oM,gZ oM⟩,oM,.inr rfl⟩
 have L:bl (n*2^k)=bl n+k:=bO v;have C:n*2^k≠0:=by have:=abr (aaK v) (Zy k);omega
 have l:∀W A d,IsL W A (nd n) n->Bf prog 68 #[aO false A n d E] W (λe w'=>∃x,(∃X,bA (n*2^k) X/\x=mk2 X (true&&decide (X*X=n*2^k)))/\aP false x (h-1) W e w'):=λW A d f=>
  (DI _ A d _ k _ h (h-1) W f (by unfold Sm;omega) y (bJ oM oM) (bJ oM oM)).mono λe w' M=>by
   obtain⟨X,o,N⟩:=M;exact⟨_,⟨X,o,rfl⟩,N⟩
 have F:∀W x A c,(∃X,bA (n*2^k) X/\x=mk2 X (true&&decide (X*X=n*2^k)))->IsL W A (nd x) x->Bf prog 65 #[aO false A x c (h-1),iI m] W (ah (Al m a b).1 (Al m a b).2 false W):=λW x A c O f=>by
  obtain⟨X,o,rfl⟩:=O;have Z:=xM (w:=(true&&decide (X*X=n*2^k))) (xv o);have:=kl (ng:=false) (e:=h-1) (xL (w:=(true&&decide (X*X=n*2^k))) (oP o C)) H oM oM oM W A c f;rw[MR D v oM z oM oM o]at this;exact this
 by_cases G:af a=0
 .rw[G]at i;exact B6 m a b _ i j _ _ _ _ _ _ _ _ _ _ _ _ _ _ _ _ _ (λW=>bx a t W) (λW=>bx b u W) (λW A B d cb f g=>oN a W A B d cb f g) (λW A B d cb f g=>oN b W A B d cb f g) S l F (nef (n:=0) oM) (nef (n:=3) r) w
 exact B7 m a b _ _ i j _ _ _ _ _ _ _ _ _ _ _ _ _ _ _ _ _ (λW=>bx a t W) (λW=>bx b u W) (λW A B d cb f g=>oN a W A B d cb f g) (λW A B d cb f g=>oN b W A B d cb f g) S l F (nef (n:=0) G) (nef (n:=3) p) (nef (n:=3) r) w
end
section
open Go.RowKit
def MS(m a b:Nat):(ik m a b).2<256:=by
 unfold ik;split;exact(by decide:(0:Nat)<256);split;exact(by decide:(0:Nat)<256);exact gm _ _ _ _ _
def NR{m a b c:Nat}(d:U64 a)(e:U64 b)(f:U64 c):gY 9 m a b c:=
 fY dC dC (λargs w=>call138 args w) d e f λg i=>
  ⟨_,_,MS m a b,λW=>En 9 m a b c g d e W,λh W=>Sj m a b c _ _ oM d e f h (λW=>B8 m a b g d e W) W⟩
end
section
open Go.RowKit
def rm{o m a b c:Nat}(g:o<256)(d:U64 a)(e:U64 b)(f:U64 c):gY o m a b c:=by
 by_cases h:o=0\/10<=o
 .exact yp g h d e f
 have i:o=1\/o=2\/o=3\/o=4\/o=5\/o=6\/o=7\/o=8\/o=9:=oM;rcases i with rfl|rfl|rfl|rfl|rfl|rfl|rfl|rfl|rfl
 .exact N0 d e f
 .exact NZ d e f
 .exact NY d e f
 .exact NX d e f
 .exact NW d e f
 .exact NU d e f
 .exact NT d e f
 .exact NS d e f
 exact NR d e f
end
section
open Go.RowKit Go.WideShapes Go.ChangeShapes Go.ChangeAt
variable{W:AK}{args:Array Aq}{f:Func}
section
variable{H:Type}{enc:E1×Aq->H}{P:E2}
def uQ{s:ChangeSpec}{c m d n:Bool}{q:AK}{v:Aq}{ds u:List (DataW H)}{a pa pv:List MemPlace}
 (z:DataW.Whole enc P f.params.toList s.vars c W args.toList ds u a)
 (k:∀(b:Nat)(o:Nat->Bool)(C:Bool),DataW.TrodAll enc P q b o C f.resultTypes.toList (v.resultList f.resultTypes.size) (s.fn H (ds++u)).results [])
 (e:∀o:Nat->Bool,(∀p∈a,o p.block)->DataW.TrodAll enc P q 0 o true f.params.toList args.toList (s.fn H (ds++u)).args pa)
 (g:∀o:Nat->Bool,(∀p∈a,o p.block)->DataW.TrodVars enc P q o s.vars (s.fn H (ds++u)).vars pv)
 (i:a=pa++pv)(B:Np W W q)
 (A:∀(j:Nat)(t:E1)(r:Aq),f.resultTypes[j]?=t->(v.resultList f.resultTypes.size)[j]?=r->Value.okWide P q .any 0 t r):
 s.post enc P f c m d n W args v q:=by
 have w:∀p∈a,p.block<W:=λp h=>z.lt p h;have l:∀p∈a,(λb=>decide (b<(W:Nat))) p.block:=λp h=>by simpa using w p h
 refine⟨ds,u,a,[],pa,pv,z,k _ _ _,e _ l,g _ l,World.keptBut_mono (λp h=>⟨h,?_⟩) (B.frame (·∈a)),λ_=>?_⟩
 .rw[i,aci]at h;exact Or.inr h
 obtain⟨_,_,_,_,_,D,E⟩:=z;refine⟨A,_,_,([]++pa)++pv,⟨[]++pa,pv,trodAll_append (e _ (λ_ _=>rfl)) (k _ _ _),g _ (λ_ _=>rfl),rfl,?_,?_⟩,?_⟩
 .intro b x h;have y:MemPlace.cell b x∈a:=by rw[i];simpa using h
  rw[B.frozen (w _ y)];exact D b x y
 .intro F;have:=E F;rw[i]at this;simpa using this
 intro p h _;rw[i];simpa using h
end
def block_add(a:Es)(n:Nat):(a.add n).block=a.block:=by unfold Addr.add;split<;>rfl
def own:ownKnob prog.godebug=none:=by kernel_rfl
def laidOut:laidOutB prog:=by kernel_rfl
def rQ(nm:String):ChangeSpec:={name:=nm,fn:=λ_=>λ
 |[d]=>{results:=[.lit (.bool true)],args:=[d]}
 |_=>Rows.none}
def JC{H:Type}{e:E1×Aq->H}{nm:String}(J:f.params=#[22])(K:f.resultTypes=#[4]){ds O:List (DataW H)}{g:List MemPlace}
 (k:∀(j:Nat)t v,f.params[j]?=some t->args[j]?=some v->Value.okWide prog W .any W t v\/∃base,Value.okWide prog W .any base t v)
 (L:DataW.Whole e prog f.params.toList (rQ nm).vars false W args.toList ds O g):
 ∃(A:Option Es)(c cap:Nat),args=#[.slice A c cap]/\c<=maxLen/\(∀i,i<c->∃a,A=some a/\a.block<W/\yr W (r8 e W 0 (λ_=>true) true) (a.add (i*8)))/\
  ∀m,Np W W m->(rQ nm).post e prog f false true false false W args (.bool true) m:=by
 have l:=L;obtain⟨p,q,z,P,rfl,Q,R⟩:=L;have M:DataW.TrodAll e prog W 0 (λ_=>true) true f.params.toList args.toList ds p:=z;rw[J]at M k;obtain⟨B,d0,d,rfl,N⟩:=trodAll_one M;have d:args=#[B]:=by simpa using d
 subst d;obtain⟨rfl,rfl⟩:=trodVars_none P;have C:=N;obtain⟨fuel,S⟩:=N;simp only[ac6]at l;have D:∀x∈p,x.block<W:=λx E=>by simpa using l.lt x E
 have F:∃a c cap,B=.slice a c cap:=by
  rcases k 0 _ B rfl rfl with h|⟨b,h⟩<;>exact okWide_slice underlying22 h
 obtain⟨A,c,cap,rfl⟩:=F;have n:∀m,Np W W m->(rQ nm).post e prog f false true false false W #[.slice A c cap] (.bool true) m:=by
  intro m y;refine uQ (pa:=p) (pv:=[]) l (λ_ _ _=>?_) (λU G=>?_) (λ_ _=>rfl) sM y ?_
  .rw[K];exact trodAll_mk1 (shut_bool underlying4 _)
  .rw[J];exact trodAll_mk1 (WideElems.Trod_stays laidOut (by kernel_rfl) (aec (by kernel_rfl)) C (λx E=>y.same (D x E)) G)
  exact ok_one K rfl (okWide_bool_mk underlying4 _)
 have o:Value.cells (.slice A c cap)=#[.slice A c cap]:=rfl;rcases zJ S with h|⟨a,r,s,h,V,X,I⟩
 .have u:(Value.cells (.slice A c cap)).toList=[.slice none 0 0]:=h;simp[o]at u;obtain⟨rfl,rfl,rfl⟩:=u;exact⟨none,0,0,rfl,dC,λi I=>oM,n⟩
 have u:(Value.cells (.slice A c cap)).toList=[.slice (some a) r s]:=h;simp[o]at u;obtain⟨rfl,rfl,rfl⟩:=u;refine⟨some a,c,cap,rfl,oM,λi w=>⟨a,rfl,?_,I i w⟩,n⟩;obtain⟨_,_,_,_,_,_,_,_,T,_⟩:=I i w;have y:=aaz _ _ T
 rwa [block_add]at y
end
end Go.Proofs.YtldmbneckcjonaaDoor
