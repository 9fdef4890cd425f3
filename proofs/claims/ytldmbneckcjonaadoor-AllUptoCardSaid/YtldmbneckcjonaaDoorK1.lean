/- A part of the proof. -/
import Derived.WalkSpells
import Derived.WalkLawsBesides
import Derived.Lib.BitFns
import Derived.Shelf.Spec.BitsCarry
import Derived.Deep.RegionHeld3
import Derived.Deep.DeepCutAuto
import Derived.LaidMore
import Derived.Deep.Fields
import Derived.StillTailTactics
import Derived.Test.YtldmbneckcjonaaDoorShelf
import Derived.Handy
import Derived.Deep.QuietTactic
import Derived.Test.YtldmbneckcjonaaDoorK0
set_option linter.defProp false
set_option linter.unusedVariables false
set_option linter.unusedSimpArgs false
set_option maxRecDepth 100000
set_option maxHeartbeats 8000000
noncomputable section
namespace Go.Proofs.YtldmbneckcjonaaDoor
open Go renaming World->AK,Value->Aq,Goroutine->Ar,Calls->Bf,undef->C0,Addr->Es,TypeId->E1,Program->E2,stepG->KC,Frame->K0,execOp->Lk,bits->Na,Event->Nc
open Go.RowKit renaming Below->Np,wrap64->Nq
open Go.Proofs.Tryd
section
open Go.RowKit
variable{a b:Int}{k:Nat}
def U64(x:Nat):Prop:=x<18446744073709551616
def U64.out{x:Nat}(h:U64 x):x<18446744073709551616:=h
def Few(k:Nat):Prop:=k<1152921504606846976
def QY(k:Nat):Prop:=1152921504606846976<=k
def Qh(k:Nat):Few k\/QY k:=aa8 _ _
def pg(h:Few k):((k:Int)<1152921504606846976)=True:=eq_true (by unfold Few at h;omega)
def tP(h:QY k):((k:Int)<1152921504606846976)=False:=eq_false (by unfold QY at h;omega)
def eY{k:IntKind}(h:a=b):Ending.returned (.int k a)=.returned (.int k b):=by rw[h]
def lO{a b:Bool}(h:a=b):Ending.returned (.bool a)=.returned (.bool b):=by rw[h]
def Iu{k:IntKind}{c a' d e:Int}(f:a=a')(g:b=d)(h:c=e):Ending.returned (.tuple #[.int k a,.int k b,.int k c])=.returned (.tuple #[.int k a',.int k d,.int k e]):=by rw[f,g,h]
def pG(a:Int)(k:Nat)(c:k<=64):Na .and .u64 a ((2^k-1:Nat):Int)=a%((2^k:Nat):Int):=by
 show IntKind.u64.wrap ((BitVec.ofInt 64 a&&&BitVec.ofInt 64 ((2^k-1:Nat):Int)).toNat:Int)=_;have d:2^k<=2^64:=aaa dC c;have h:0<2^k:=Zy k;have e:(BitVec.ofInt 64 ((2^k-1:Nat):Int)).toNat=2^k-1:=by
  rw[acR,ada];exact aac oM
 rw[adz,e,adx,ad7,ZV];have f:0<=a%((2^64:Nat):Int):=Int.emod_nonneg _ dC;have e1:(((a%((2^64:Nat):Int)).toNat%2^k:Nat):Int)=a%((2^k:Nat):Int):=by
  rw[aeu,Int.toNat_of_nonneg f];exact Int.emod_emod_of_dvd _ (Int.natCast_dvd_natCast.2 (aeJ 2 c))
 rw[e1];have g:=Int.emod_nonneg a (show((2^k:Nat):Int)≠0 by omega);have i:=Int.emod_lt_of_pos a (show(0:Int)<((2^k:Nat):Int) by omega);exact Int.emod_eq_of_lt g oM
def and_1(a:Int):Na .and .u64 a 1=a%2:=pG a 1 dC
def Bi(a:Int):Na .and .u64 a 2047=a%2048:=pG a 11 dC
def OQ(a:Int):Na .and .u64 a 4503599627370495=a%4503599627370496:=pG a 52 dC
def af(x:Nat):Nat:=if x/4503599627370496%2048=0 then(if x%4503599627370496=0 then 0 else 1)else if x/4503599627370496%2048<2047 then 2 else if x%4503599627370496=0 then 3 else if 2251799813685248<=x%4503599627370496 then 4 else 5
@[irreducible]def H7(x:Nat):Int:=x/9223372036854775808
@[irreducible]def GU(x:Nat):Int:=x/4503599627370496%2048
@[irreducible]def wA(x:Nat):Int:=x%4503599627370496
def ye(x:Nat):Nat:=af x+x/9223372036854775808*8
def oV(x:Nat):af x<6:=by unfold af;(repeat' split)<;>omega
end
section
open Go.RowKit
attribute[local go_sem] Bi OQ
def aX(x:Nat)(w:AK):
 Bf prog 42 #[iU x] w λe w'=>e=.returned (iI (af x))/\w=w':=by
 go_enter func42,ntmps42
 go_wp2
 all_goals go_ret
 all_goals(refine⟨eY ?_,rfl⟩;simp only[ZV,abH,Zs,ne_eq]at*;unfold af;repeat' split)
 all_goals omega
def Hr(x:Nat)(a:U64 x)(w:AK):
 Bf prog 27 #[iU x] w λe w'=>e=.returned (iI (ye x))/\w=w':=by
 go_enter func27,ntmps27
 go_wp2_with(go_at_call 42;refine gW (aX _ _) ?_)
 go_ret
 refine⟨eY ?_,rfl⟩;have b:=oV x;have a:=a.out;simp only[Nq];unfold ye;omega
def vR(x:Nat)(a:U64 x)(w:AK):
 Bf prog 60 #[iU x] w λe w'=>e=.returned (.tuple #[iI (H7 x),iI (GU x),iI (wA x)])/\w=w':=by
 go_enter func60,ntmps60
 go_wp2
 go_ret3
 refine⟨?_,rfl⟩;have a:=a.out;exact Iu (by simp only[Nq,H7];omega) (by simp only[GU]) (by simp only[wA])
def bN(x:Nat)(a:U64 x)(w:AK):
 Bf prog 43 #[iU x] w λe w'=>e=.returned (iI (af x))/\w=w':=by
 go_enter func43,ntmps43
 go_wp2_with(go_at_call 60;refine gW (vR _ a _) ?_)
 all_goals go_ret
 all_goals(refine⟨eY ?_,rfl⟩;simp only[abH,Zs,ne_eq]at*;simp only[GU,wA]at*;unfold af;repeat' split)
 all_goals omega
def xA(x:Nat)(a:U64 x)(w:AK):
 Bf prog 28 #[iU x] w λe w'=>e=.returned (iI (ye x))/\w=w':=by
 go_enter func28,ntmps28
 go_wp2_with(go_at_call 43;refine gW (bN _ a _) ?_)
 all_goals go_ret
 all_goals(refine⟨eY ?_,rfl⟩;have b:=oV x;have a:=a.out;unfold ye;try simp only[abH,Zs,ne_eq]at*;try simp only[Nq])
 all_goals omega
end
section
variable{a b c d k n x:Nat}
@[irreducible]def bl(n:Nat):Nat:=if n=0 then 0 else n.log2+1
def gE:bl 0=0:=by unfold bl;rfl
def br:bl n<=k↔n<2^k:=by
 unfold bl;split
 .rename_i h;subst h;simp[Zy]
 rename_i h;rw[<-Nat.log2_lt h];omega
def jz:k<bl n↔2^k<=n:=by
 have:=br (n:=n) (k:=k);omega
def ri(e:2^k<=n)(f:n<2^(k+1)):bl n=k+1:=by
 have:=jz.2 e;have:=br.2 f;omega
def aN(n:Nat):n<2^bl n:=br.1 (Zo _)
def fB(h:n≠0):2^(bl n-1)<=n:=by
 have e:0<bl n:=jz.2 (by rw[abX];omega);exact jz.1 oM
def ey:0<bl n↔n≠0:=by
 rw[jz];simp;omega
def e7(h:a<=b):bl a<=bl b:=br.2 (aam h (aN b))
def EL(h:n≠0):bl n=1+bl (n/2):=by
 by_cases g:n=1
 .subst g;rw[show(1:Nat)/2=0 from rfl,gE,ri (k:=0) dC dC]
 have e:n/2≠0:=oM;have f:=fB e;have i:=aN (n/2);have l:0<bl (n/2):=ey.2 e;obtain⟨k,j⟩:∃k,bl (n/2)=k+1:=⟨bl (n/2)-1,oM⟩;rw[j]at f i⊢;simp only[abt]at f;rw[ri (k:=k+1) (by rw[aaO];omega) (by rw[aaO];omega)];omega
def pD:∀(f x:Nat),x<2^f->Lib.bitLenAux f x=bl x
 |0,x,h=>by
  have:x=0:=by simpa using h
  subst this;rw[gE];rfl
 |f+1,x,h=>by
  unfold Lib.bitLenAux;split
  .rename_i e;subst e;rw[gE]
  rename_i e;rw[EL e,pD f (x/2) (by rw[aaO]at h;omega)]
def wM(h:U64 x):Lib.bitLen x=bl x:=pD 64 x h
def bO(h:n≠0):bl (n*2^k)=bl n+k:=by
 have e:=fB h;have f:=aN n;have i:0<bl n:=ey.2 h;obtain⟨j,g⟩:∃j,bl n=j+1:=⟨bl n-1,oM⟩;rw[g]at e f⊢;simp only[abt]at e;rw[ri (k:=j+k)]
 .omega
 .rw[ZD];exact Z9 _ e
 rw[show j+k+1=(j+1)+k from by omega,ZD];exact aax f (Zy k)
def pz(h:n/2^k≠0):bl n=bl (n/2^k)+k:=by
 have e:=fB h;have f:=aN (n/2^k);have i:0<bl (n/2^k):=ey.2 h;obtain⟨j,g⟩:∃j,bl (n/2^k)=j+1:=⟨bl (n/2^k)-1,oM⟩;rw[g]at e f⊢;simp only[abt]at e;rw[ri (k:=j+k)]
 .omega
 .rw[ZD];exact Zz (Z9 _ e) (Nat.div_mul_le_self n (2^k))
 rw[show j+k+1=(j+1)+k from by omega,ZD];exact(Z4 (Zy k)).1 f
@[irreducible]def wd(i n:Nat):Nat:=n/2^(64*i)%18446744073709551616
def ax(i n:Nat):U64 (wd i n):=by unfold wd U64;omega
def au(n:Nat):Prop:=n<2^256
def au.out(h:au n):n<2^256:=h
abbrev W4(n:Nat):Aq:=.agg #[iU (wd 0 n),iU (wd 1 n),iU (wd 2 n),iU (wd 3 n)]
def wd0(n:Nat):wd 0 n=n%18446744073709551616:=by unfold wd;simp
def wd1(n:Nat):wd 1 n=n/18446744073709551616%18446744073709551616:=by unfold wd;rfl
def wd2(n:Nat):wd 2 n=n/340282366920938463463374607431768211456%18446744073709551616:=by unfold wd;rfl
def wd3(n:Nat):wd 3 n=n/6277101735386680763835789423207666416102355444464034512896%18446744073709551616:=by unfold wd;rfl
def of4(a b c d:Nat):Nat:=a+18446744073709551616*b+340282366920938463463374607431768211456*c+6277101735386680763835789423207666416102355444464034512896*d
def tv(h:au n):of4 (wd 0 n) (wd 1 n) (wd 2 n) (wd 3 n)=n:=by
 have h:=h.out;rw[wd0,wd1,wd2,wd3];unfold of4;omega
def OX(e:U64 a)(f:U64 b)(g:U64 c)(h:U64 d):wd 0 (of4 a b c d)=a/\wd 1 (of4 a b c d)=b/\wd 2 (of4 a b c d)=c/\wd 3 (of4 a b c d)=d:=by
 have:=e.out;have:=f.out;have:=g.out;have:=h.out;rw[wd0,wd1,wd2,wd3];unfold of4;omega
def cE(e:U64 a)(f:U64 b)(g:U64 c)(i:U64 d)(h:of4 a b c d=n):W4 n=.agg #[iU a,iU b,iU c,iU d]:=by
 subst h;obtain⟨j,l,m,o⟩:=OX e f g i;unfold W4;rw[j,l,m,o]
def Xa(h:au n)(f:wd 3 n≠0):bl n=192+bl (wd 3 n):=by
 have e:n/2^192=wd 3 n:=by have:=h.out;rw[wd3];omega
 rw[<-e]at f⊢;rw[pz f];omega
def Xb(h:au n)(g:wd 3 n=0)(f:wd 2 n≠0):bl n=128+bl (wd 2 n):=by
 have e:n/2^128=wd 2 n:=by have:=h.out;rw[wd3]at g;rw[wd2];omega
 rw[<-e]at f⊢;rw[pz f];omega
def Xc(h:au n)(g:wd 3 n=0)(i:wd 2 n=0)(f:wd 1 n≠0):bl n=64+bl (wd 1 n):=by
 have e:n/2^64=wd 1 n:=by have:=h.out;rw[wd3]at g;rw[wd2]at i;rw[wd1];omega
 rw[<-e]at f⊢;rw[pz f];omega
def Vi(h:au n)(e:wd 3 n=0)(f:wd 2 n=0)(g:wd 1 n=0):n=wd 0 n:=by
 have:=h.out;rw[wd3]at e;rw[wd2]at f;rw[wd1]at g;rw[wd0];omega
def jl(h:U64 x):bl x<=64:=br.2 h
def KT(h:au n):(wd 3 n≠0->bl n=192+bl (wd 3 n))/\(wd 3 n=0->wd 2 n≠0->bl n=128+bl (wd 2 n))/\(wd 3 n=0->wd 2 n=0->wd 1 n≠0->bl n=64+bl (wd 1 n))/\(wd 3 n=0->wd 2 n=0->wd 1 n=0->bl n=bl (wd 0 n))/\(wd 3 n=0->wd 2 n=0->wd 1 n=0->wd 0 n=0->bl n=0):=
 ⟨Xa h,Xb h,Xc h,λa b c=>by rw[<-Vi h a b c],λa b c d=>by rw[Vi h a b c,d,gE]⟩
end
section
open Go.RowKit
variable{a n:Nat}{b c x y:Int}
def Qu{W d:AK}(e:Np W W d):(∀b o,b<(W:Nat)->d (aD b o)=W (aD b o))/\(∀b o,b<(W:Nat)->d.frozen? (aD b o)=W.frozen? (aD b o)):=
 ⟨λb o h=>e.cell (p:=aD b o) h,λb o h=>e.frozen (p:=aD b o) h⟩
def IsW(x:Int):Prop:=0<=x/\x<18446744073709551616
def IsC(c:Int):Prop:=c=0\/c=1
@[irreducible]def adS(x y c:Int):Int:=(x+y+c)%18446744073709551616
@[irreducible]def adC(x y c:Int):Int:=if 18446744073709551616<=x+y+c then 1 else 0
@[irreducible]def sbD(x y b:Int):Int:=(x+18446744073709551616-y-b)%18446744073709551616
@[irreducible]def sbB(x y b:Int):Int:=if x<y+b then 1 else 0
def PM{x:Nat}(h:U64 x):IsW x:=by have:=h.out;exact⟨oM,oM⟩
def cV(i n:Nat):IsW (wd i n):=PM (ax i n)
def eR:IsW 0:=by unfold IsW;omega
def gM:IsC 0:=.inl rfl
def ij(x y c:Int):IsW (adS x y c):=by unfold IsW adS;omega
def jA(x y c:Int):IsC (adC x y c):=by unfold IsC adC;split<;>simp
def oW(x y b:Int):IsW (sbD x y b):=by unfold IsW sbD;omega
def oZ(x y b:Int):IsC (sbB x y b):=by unfold IsC sbB;split<;>simp
def uj(f:IsW x)(g:IsW y)(d:IsC c)(w:AK):
 (callFunc 164 #[iU x,iU y,iU c]).run prog w=.ok (.value (.tuple #[iU (adS x y c),iU (adC x y c)])) w:=by
 rw[acu func164 (by kernel_rfl) (by kernel_rfl) (by kernel_rfl) (e:=add64Entry) (by kernel_rfl)];obtain⟨i,k⟩:=f;obtain⟨j,l⟩:=g;rw[run_add64 x y c i j (by rcases d with h|h<;>omega) (by rcases d with h|h<;>omega)];simp only[Result.andThen];have e1:(x+y+c)/18446744073709551616=adC x y c:=by unfold adC;split<;>(rcases d with h|h<;>omega)
 have e2:(x+y+c)%18446744073709551616=adS x y c:=by unfold adS;rfl
 rw[e1,e2]
def Dk(f:IsW x)(g:IsW y)(d:IsC b)(w:AK):
 (callFunc 166 #[iU x,iU y,iU b]).run prog w=.ok (.value (.tuple #[iU (sbD x y b),iU (sbB x y b)])) w:=by
 rw[acu func166 (by kernel_rfl) (by kernel_rfl) (by kernel_rfl) (e:=sub64Entry) (by kernel_rfl)];obtain⟨i,l⟩:=f;obtain⟨j,m⟩:=g;obtain⟨X,rfl⟩:=aaQ i;obtain⟨Y,rfl⟩:=aaQ j;obtain⟨B,rfl⟩:∃B:Nat,b=B:=⟨b.toNat,by rcases d with h|h<;>subst h<;>rfl⟩;have k:B<=1:=by rcases d with h|h<;>omega
 rw[run_sub64 X Y B k];simp only[Result.andThen];have e1:((if X<Y+B then 1 else 0:Nat):Int)=sbB X Y B:=by unfold sbB;split<;>split<;>omega
 have e2:(((X+18446744073709551616-Y-B)%18446744073709551616:Nat):Int)=sbD X Y B:=by unfold sbD;omega
 rw[e1,e2]
def rH(d:IsW x)(e:IsW y)(f:IsC b):sbD x y b=x-y-b+18446744073709551616*sbB x y b:=by
 obtain⟨g,i⟩:=d;obtain⟨j,k⟩:=e;unfold sbD sbB;split<;>(rcases f with h|h<;>omega)
def nl(d:IsW x)(e:IsW y)(f:IsC c):adS x y c=x+y+c-18446744073709551616*adC x y c:=by
 obtain⟨g,i⟩:=d;obtain⟨j,k⟩:=e;unfold adS adC;split<;>(rcases f with h|h<;>omega)
def Bx{a d:Int}(e:IsW a)(f:IsW b)(g:IsW c)(i:IsW d)
 (h:a+18446744073709551616*b+340282366920938463463374607431768211456*c+6277101735386680763835789423207666416102355444464034512896*d=n):W4 n=.agg #[iU a,iU b,iU c,iU d]:=by
 obtain⟨j,l⟩:=e;obtain⟨k,m⟩:=f;obtain⟨c0,o⟩:=g;obtain⟨d0,d1⟩:=i;obtain⟨A,rfl⟩:=aaQ j;obtain⟨B,rfl⟩:=aaQ k;obtain⟨C,rfl⟩:=aaQ c0;obtain⟨D,rfl⟩:=aaQ d0;exact cE (show A<18446744073709551616 by omega) (show B<18446744073709551616 by omega) (show C<18446744073709551616 by omega) (show D<18446744073709551616 by omega) (by unfold of4;omega)
def Mw(h:au n):(wd 0 n:Int)+18446744073709551616*wd 1 n+340282366920938463463374607431768211456*wd 2 n+6277101735386680763835789423207666416102355444464034512896*wd 3 n=n:=by
 have:=tv h;unfold of4 at this;omega
@[irreducible]def jW(a b:Nat):Nat:=(a+2^256-b)%2^256
def oE{b:Nat}(d:au a)(h:b<=a):jW a b=a-b:=by have:=d.out;unfold jW;omega
def vv(a b:Nat):au (jW a b):=by unfold jW au;omega
def HV{b:Nat}(i:au a)(j:au b):
 W4 (jW a b)=.agg #[iU (sbD (wd 0 a) (wd 0 b) 0),iU (sbD (wd 1 a) (wd 1 b) (sbB (wd 0 a) (wd 0 b) 0)),iU (sbD (wd 2 a) (wd 2 b) (sbB (wd 1 a) (wd 1 b) (sbB (wd 0 a) (wd 0 b) 0))),
  iU (sbD (wd 3 a) (wd 3 b) (sbB (wd 2 a) (wd 2 b) (sbB (wd 1 a) (wd 1 b) (sbB (wd 0 a) (wd 0 b) 0))))]/\
 (sbB (wd 3 a) (wd 3 b) (sbB (wd 2 a) (wd 2 b) (sbB (wd 1 a) (wd 1 b) (sbB (wd 0 a) (wd 0 b) 0)))==1)=decide (a<b):=by
 have p:=Mw i;have q:=Mw j;have r:=i.out;have s:=j.out;have c0:=oZ (wd 0 a) (wd 0 b) 0;have t:=rH (cV 0 a) (cV 0 b) gM;have l:=oZ (wd 1 a) (wd 1 b) (sbB (wd 0 a) (wd 0 b) 0);have s1:=rH (cV 1 a) (cV 1 b) c0;have m:=oZ (wd 2 a) (wd 2 b) (sbB (wd 1 a) (wd 1 b) (sbB (wd 0 a) (wd 0 b) 0));have s2:=rH (cV 2 a) (cV 2 b) l;have k:=oZ (wd 3 a) (wd 3 b) (sbB (wd 2 a) (wd 2 b) (sbB (wd 1 a) (wd 1 b) (sbB (wd 0 a) (wd 0 b) 0)));have o:=rH (cV 3 a) (cV 3 b) m;have d:=oW (wd 0 a) (wd 0 b) 0;have e:=oW (wd 1 a) (wd 1 b) (sbB (wd 0 a) (wd 0 b) 0);have f:=oW (wd 2 a) (wd 2 b) (sbB (wd 1 a) (wd 1 b) (sbB (wd 0 a) (wd 0 b) 0));have g:=oW (wd 3 a) (wd 3 b) (sbB (wd 2 a) (wd 2 b) (sbB (wd 1 a) (wd 1 b) (sbB (wd 0 a) (wd 0 b) 0)));refine⟨Bx d e f g ?_,?_⟩
 .unfold jW;unfold IsW at d e f g;unfold IsC at k;omega
 unfold IsW at d e f g;rcases k with h|h<;>rw[h]at o⊢
 .rw[Zv oM];rfl
 rw[ZP oM];rfl
def K9{b:Nat}(i:au a)(j:au b)(h:au (a+b)):
 W4 (a+b)=.agg #[iU (adS (wd 0 a) (wd 0 b) 0),iU (adS (wd 1 a) (wd 1 b) (adC (wd 0 a) (wd 0 b) 0)),iU (adS (wd 2 a) (wd 2 b) (adC (wd 1 a) (wd 1 b) (adC (wd 0 a) (wd 0 b) 0))),
  iU (adS (wd 3 a) (wd 3 b) (adC (wd 2 a) (wd 2 b) (adC (wd 1 a) (wd 1 b) (adC (wd 0 a) (wd 0 b) 0))))]:=by
 have o:=Mw i;have p:=Mw j;have q:=h.out;have c0:=jA (wd 0 a) (wd 0 b) 0;have r:=nl (cV 0 a) (cV 0 b) gM;have k:=jA (wd 1 a) (wd 1 b) (adC (wd 0 a) (wd 0 b) 0);have s1:=nl (cV 1 a) (cV 1 b) c0;have l:=jA (wd 2 a) (wd 2 b) (adC (wd 1 a) (wd 1 b) (adC (wd 0 a) (wd 0 b) 0));have s2:=nl (cV 2 a) (cV 2 b) k;have m:=jA (wd 3 a) (wd 3 b) (adC (wd 2 a) (wd 2 b) (adC (wd 1 a) (wd 1 b) (adC (wd 0 a) (wd 0 b) 0)));have s:=nl (cV 3 a) (cV 3 b) l;have d:=ij (wd 0 a) (wd 0 b) 0;have e:=ij (wd 1 a) (wd 1 b) (adC (wd 0 a) (wd 0 b) 0);have f:=ij (wd 2 a) (wd 2 b) (adC (wd 1 a) (wd 1 b) (adC (wd 0 a) (wd 0 b) 0));have g:=ij (wd 3 a) (wd 3 b) (adC (wd 2 a) (wd 2 b) (adC (wd 1 a) (wd 1 b) (adC (wd 0 a) (wd 0 b) 0)));refine Bx d e f g ?_;unfold IsW at d e f g;unfold IsC at m;omega
end
section
variable{a k r x y:Nat}
def jS(h:r<64):2^r*2^(64-r)=18446744073709551616:=by
 rw[<-ZD,show r+(64-r)=64 from by omega]
@[irreducible]def sL(x r:Nat):Nat:=x*2^r%18446744073709551616
@[irreducible]def sH(x r:Nat):Nat:=x/2^(64-r)
@[irreducible]def sLH(x y r:Nat):Nat:=sL x r+sH y r
def dc(h:r<64):x*2^r=sL x r+18446744073709551616*sH x r:=by
 unfold sL sH;have e:x*2^r/18446744073709551616=x/2^(64-r):=by
  rw[<-jS h,Z1 (2^r) (2^(64-r)),abD _ _ (Zy r)]
 rw[<-e];omega
def ju(x r:Nat):sL x r<18446744073709551616:=by unfold sL;exact aa1 _ dC
def BZ(h:r<64):sL x r%2^r=0:=by
 unfold sL;have b:2^r∣18446744073709551616:=⟨2^(64-r),(jS h).symm⟩;exact adl ((Nat.dvd_mod_iff b).2 (Nat.dvd_mul_left _ _))
def DG(b:U64 x)(h:r<64):sH x r<2^r:=by
 unfold sH;rw[Z4 (Zy _),jS h];exact b.out
def IZ(h:r<64):2^r<=9223372036854775808:=aaa (n:=2) (j:=63) dC oM
def xp(b:U64 x)(h:r<64):sH x r<18446744073709551616:=by
 have:=DG b h;have:=IZ h;omega
def eJ(c:U64 y)(h:r<64):sL x r+sH y r<18446744073709551616:=by
 have d:=ju x r;have e:=BZ (x:=x) h;have j:=DG c h;have b:2^r*2^(64-r)=18446744073709551616:=jS h;have f:2^r*(sL x r/2^r)=sL x r:=Nat.mul_div_cancel' (Nat.dvd_of_mod_eq_zero e);have g:sL x r/2^r<2^(64-r):=by
  rw[Z4 (Zy _),Z1,b];exact d
 have i:2^r*(sL x r/2^r+1)<=2^r*2^(64-r):=abz _ g;rw[abl,f,b]at i;omega
def rG(x r:Nat):IntKind.u64.wrap ((x:Int)*2^r)=(sL x r:Nat):=by
 rw[ZV];unfold sL;simp
def xY(x r:Nat):(x:Int)/2^(64-r)=(sH x r:Nat):=by
 unfold sH;simp
def Ci(b:U64 y)(h:r<64):Na .or .u64 (sL x r:Nat) (sH y r:Nat)=(sLH x y r:Nat):=by
 unfold sLH;rw[acB _ _ (ju x r) (xp b h),ael r _ _ (BZ h) (DG b h)]
def Ks(b:0<r)(h:r<64):(x:Int)/2^r=(sH x (64-r):Nat):=by
 have:=xY x (64-r);rwa [show 64-(64-r)=r from by omega]at this
def Mm(b:U64 x)(c:0<r)(h:r<64):Na .or .u64 (sH x (64-r):Nat) (sL y (64-r):Nat)=(sLH y x (64-r):Nat):=by
 unfold sLH;rw[acB _ _ (xp b oM) (ju y _),Nat.or_comm,ael (64-r) _ _ (BZ oM) (DG b oM)]
def oS{p:Nat}(h:au a):a*p=wd 0 a*p+18446744073709551616*(wd 1 a*p)+340282366920938463463374607431768211456*(wd 2 a*p)+6277101735386680763835789423207666416102355444464034512896*(wd 3 a*p):=by
 conv=>lhs;rw[<-tv h]
 unfold of4;simp only[abm,Z3]
section
variable{a r:Nat}(ha:au a)(hr:r<64)
include ha hr
def Oo:W4 (a*2^(0+r)%2^256)=.agg #[iU (sL (wd 0 a) r),iU (sLH (wd 1 a) (wd 0 a) r),iU (sLH (wd 2 a) (wd 1 a) r),iU (sLH (wd 3 a) (wd 2 a) r)]:=by
 refine cE (ju _ _) (by unfold sLH;exact eJ (ax _ _) hr) (by unfold sLH;exact eJ (ax _ _) hr) (by unfold sLH;exact eJ (ax _ _) hr) ?_;have e:=oS (p:=2^r) ha;rw[dc (x:=wd 0 a) hr,dc (x:=wd 1 a) hr,dc (x:=wd 2 a) hr,dc (x:=wd 3 a) hr]at e;have b:=ju (wd 0 a) r;have l1:=eJ (x:=wd 1 a) (ax 0 a) hr;have l2:=eJ (x:=wd 2 a) (ax 1 a) hr;have c:=eJ (x:=wd 3 a) (ax 2 a) hr;rw[Z8,e];unfold of4 sLH;omega
def On:W4 (a*2^(64+r)%2^256)=.agg #[iU 0,iU (sL (wd 0 a) r),iU (sLH (wd 1 a) (wd 0 a) r),iU (sLH (wd 2 a) (wd 1 a) r)]:=by
 refine cE (a:=0) (show 0<18446744073709551616 by decide) (ju _ _) (by unfold sLH;exact eJ (ax _ _) hr) (by unfold sLH;exact eJ (ax _ _) hr) ?_;have e:=oS (p:=2^r) ha;rw[dc (x:=wd 0 a) hr,dc (x:=wd 1 a) hr,dc (x:=wd 2 a) hr,dc (x:=wd 3 a) hr]at e;have b:=ju (wd 0 a) r;have l1:=eJ (x:=wd 1 a) (ax 0 a) hr;have l2:=eJ (x:=wd 2 a) (ax 1 a) hr;have c:=eJ (x:=wd 3 a) (ax 2 a) hr;rw[ZD,<-Z3,abR,e];unfold of4 sLH;omega
def Om:W4 (a*2^(128+r)%2^256)=.agg #[iU 0,iU 0,iU (sL (wd 0 a) r),iU (sLH (wd 1 a) (wd 0 a) r)]:=by
 refine cE (a:=0) (b:=0) (show 0<18446744073709551616 by decide) (show 0<18446744073709551616 by decide) (ju _ _) (by unfold sLH;exact eJ (ax _ _) hr) ?_;have e:=oS (p:=2^r) ha;rw[dc (x:=wd 0 a) hr,dc (x:=wd 1 a) hr,dc (x:=wd 2 a) hr,dc (x:=wd 3 a) hr]at e;have c:=ju (wd 0 a) r;have l1:=eJ (x:=wd 1 a) (ax 0 a) hr;have l2:=eJ (x:=wd 2 a) (ax 1 a) hr;have d:=eJ (x:=wd 3 a) (ax 2 a) hr;rw[ZD,<-Z3,abR,e];unfold of4 sLH;omega
def Ol:W4 (a*2^(192+r)%2^256)=.agg #[iU 0,iU 0,iU 0,iU (sL (wd 0 a) r)]:=by
 refine cE (a:=0) (b:=0) (c:=0) (show 0<18446744073709551616 by decide) (show 0<18446744073709551616 by decide) (show 0<18446744073709551616 by decide) (ju _ _) ?_;have e:=oS (p:=2^r) ha;rw[dc (x:=wd 0 a) hr,dc (x:=wd 1 a) hr,dc (x:=wd 2 a) hr,dc (x:=wd 3 a) hr]at e;have d:=ju (wd 0 a) r;rw[ZD,<-Z3,abR,e];unfold of4;omega
end
def Du(i n:Nat):IntKind.u64.wrap (wd i n)=wd i n:=by have:=(ax i n).out;rw[ZV];omega
def Ib(h:U64 x):sL x 0=x:=by have:=h.out;unfold sL;omega
def VC(h:U64 x):sH x 0=0:=by have:=h.out;unfold sH;omega
def vB(h:U64 x)(b:U64 y):sLH x y 0=x:=by unfold sLH;rw[Ib h,VC b];omega
def LD(a:Nat)(h:256<=k):W4 (a*2^k%2^256)=.agg #[iU 0,iU 0,iU 0,iU 0]:=by
 rw[show a*2^k%2^256=0 from adl (Nat.dvd_trans (aeJ 2 h) (Nat.dvd_mul_left _ _))];exact cE (a:=0) (b:=0) (c:=0) (d:=0) (show 0<18446744073709551616 by decide) (show 0<18446744073709551616 by decide) (show 0<18446744073709551616 by decide) (show 0<18446744073709551616 by decide) rfl
@[irreducible]def fO(a k:Nat):Nat:=a*2^k%2^256
def oH(a k:Nat):fO a k=a*2^k%2^256:=by unfold fO;rfl
def Fi(a k:Nat):au (fO a k):=by unfold fO au;exact aa1 _ dC
def js(h:au (a*2^k)):fO a k=a*2^k:=by unfold fO;exact aac h
end
section
variable{n v:Nat}
def Pj{x k:Nat}(a:x%2^(k+1)=0)(h:x+2^k<18446744073709551616):Na .or .u64 (x:Int) ((2^k:Nat):Int)=((x+2^k:Nat):Int):=by
 rw[acB _ _ oM oM,ael (k+1) _ _ a (acO dC oM)]
def PF(b:n%4=0)(c:v<4):Na .or .u64 (wd 0 n) (v:Int)=(wd 0 (n+v):Nat):=by
 have a:=(ax 0 n).out;rw[acB _ _ a oM];rw[wd0]at a⊢;rw[wd0,ael 2 _ _ oM oM];omega
def Tj(a:n%4=0)(b:v<4):wd 1 (n+v)=wd 1 n:=by rw[wd1,wd1];omega
def Ti(a:n%4=0)(b:v<4):wd 2 (n+v)=wd 2 n:=by rw[wd2,wd2];omega
def Th(a:n%4=0)(b:v<4):wd 3 (n+v)=wd 3 n:=by rw[wd3,wd3];omega
def Ee(b:n%2=0):Na .or .u64 (wd 0 n) 1=(wd 0 (n+1):Nat):=by
 have a:=(ax 0 n).out;have:=acB (wd 0 n) 1 a oM;rw[show((1:Nat):Int)=1 from rfl]at this;rw[this];rw[wd0]at a⊢;rw[wd0,ael 1 _ _ oM oM];omega
def Jw(a:n%2=0):wd 1 (n+1)=wd 1 n:=by rw[wd1,wd1];omega
def Jv(a:n%2=0):wd 2 (n+1)=wd 2 n:=by rw[wd2,wd2];omega
def Ju(a:n%2=0):wd 3 (n+1)=wd 3 n:=by rw[wd3,wd3];omega
end
section
open Go.RowKit
@[irreducible]def pX(x:Nat):Nat:=x|||2251799813685248
def zw{x:Nat}(h:U64 x):Na .or .u64 (x:Int) 2251799813685248=(pX x:Nat):=by
 have:=acB x 2251799813685248 h oM;unfold pX;exact this
end
section
variable{a b c n:Nat}
def ft(a b c i:Nat):Nat:=if i=0 then a else if i=1 then b else c
def eP(a b c:Nat):Nat->Bool
 |0=>false
 |i+1=>eP a b c i||decide (4<=af (ft a b c i))
def lX(a b c:Nat):Nat->Nat
 |0=>0
 |i+1=>if eP a b c i=false/\4<=af (ft a b c i)then pX (ft a b c i)else lX a b c i
def gu(a b c:Nat):Nat->Nat
 |0=>0
 |i+1=>if af (ft a b c i)=5 then 16 else gu a b c i
def D7(a b c:Nat):∀i,gu a b c i=0\/gu a b c i=16
 |0=>.inl rfl
 |i+1=>by unfold gu;split;exact .inr rfl;exact D7 a b c i
def xI:∀{i},eP a b c i=false->lX a b c i=0/\gu a b c i=0
 |0,_=>⟨rfl,rfl⟩
 |i+1,h=>by
  unfold eP at h;rw[aaP,aan]at h;obtain⟨d,e⟩:=h;have:=xI (i:=i) d;unfold lX gu;rw[Zr oM,Zr oM];exact this
@[irreducible]def dX(op a b c n:Nat):Bool×Nat×Nat:=
 if eP a b c n=false then(false,0,0)
 else if op=5/\af c=4/\((af a=0/\af b=3)\/(af a=3/\af b=0))then(true,9221120237041090560,16)
 else if op=9/\gu a b c n=0/\(af a=3\/af b=3)then(true,9218868437227405312,0)
 else(true,lX a b c n,gu a b c n)
def oT{op:Nat}(h:eP a b c n=false):dX op a b c n=(false,0,0):=by unfold dX;rw[ZC h]
def vT{op:Nat}(h:eP a b c n):(dX op a b c n).1:=by
 unfold dX;rw[Zr (by rw[h];decide)];split;rfl;split;rfl;rfl
def cU(op:Nat):Nat:=if op=5 then 3 else if op=6\/op=7\/op=8 then 1 else if op=10 then 0 else 2
def xJ(op:Nat):cU op<=3:=by unfold cU;split;omega;split;omega;split<;>omega
def Co{i:Nat}(d:U64 a)(e:U64 b)(f:U64 c):U64 (ft a b c i):=by unfold ft;split;exact d;split;exact e;exact f
end
section
open Go.RowKit
variable{W w1:AK}{p:Es}{v:Aq}
def de(a:Np W W w1):(∀b o,b<(W:Nat)->w1 (aD b o)=W (aD b o))/\(∀b o,b<(W:Nat)->w1.frozen? (aD b o)=W.frozen? (aD b o)):=
 ⟨λ_ _ h=>a.cell (p:=aD _ _) h,λ_ _ h=>a.frozen (p:=aD _ _) h⟩
abbrev RV(b f:Nat)(a:Bool):Aq:=.agg #[iU b,iI f,.bool a]
def ae(h:Np W W w1)(a:W p=v):w1 p=v:=by
 rw[h.cell (aaz _ _ a)];exact a
def aq(h:Np W W w1)(a:W p=v)(b:W.frozen? p=false):w1.frozen? p=false:=by
 rw[h.frozen (aaz _ _ a)];exact b
end
section
open Go.RowKit
abbrev REC(op md a b c:Nat):Aq:=.agg #[qB op,qB md,iU a,iU b,iU c]
abbrev nE(b f:Nat)(a:Bool):Aq:=.agg #[iU b,qB f,.bool a]
def cP(w:AK):Bf prog 61 #[] w λe w'=>e=.returned (nE 9221120237041090560 16 false)/\Np w w w':=by
 go_enter func61,ntmps61
 go_wp2_with fail
 exact bR ⟨rfl,cB⟩
def pK(w:AK)(op md a b c n:Nat)(d e:Nat)(wr:AK):Prop:=
 (wr (aD w 0)=qB op/\wr (aD w 1)=qB md/\wr (aD w 2)=iU a/\wr (aD w 3)=iU b/\wr (aD w 4)=iU c)/\
 (wr (aD (w+1) 0)=iU 0/\wr (aD (w+1) 1)=qB 0/\wr (aD (w+1) 2)=some (.bool false))/\
 (wr.frozen? (aD (w+1) 0)=false/\wr.frozen? (aD (w+1) 1)=false/\wr.frozen? (aD (w+1) 2)=false)/\
 (∀i,i<n->wr (aD (w+1+1) i)=iU (ft a b c i))/\
 (wr (aD (w+1+1+1) 0)=iU d/\wr (aD (w+1+1+1) 1)=qB e/\wr (aD (w+1+1+1) 2)=some (.bool false))/\
 (wr.frozen? (aD (w+1+1+1) 0)=false/\wr.frozen? (aD (w+1+1+1) 1)=false)/\
 Np w w wr/\(wr:Nat)=w+4
def H6(g:Nat)(w:AK):(Instr.sliceAt 110 (pT g 0) none (iI ((0:Nat):Int)) none).run prog w=.ok (qL g 0 0 3) w:=by kernel_rfl
def H5(g:Nat)(w:AK):(Instr.sliceAt 110 (pT g 0) none (iI ((1:Nat):Int)) none).run prog w=.ok (qL g 0 1 3) w:=by kernel_rfl
def H4(g:Nat)(w:AK):(Instr.sliceAt 110 (pT g 0) none (iI ((2:Nat):Int)) none).run prog w=.ok (qL g 0 2 3) w:=by kernel_rfl
def H3(g:Nat)(w:AK):(Instr.sliceAt 110 (pT g 0) none (iI ((3:Nat):Int)) none).run prog w=.ok (qL g 0 3 3) w:=by kernel_rfl
def slice3(g n:Nat)(a:n<=3)(w:AK):(Instr.sliceAt 110 (pT g 0) none (iI (n:Int)) none).run prog w=.ok (qL g 0 n 3) w:=by
 have h:n=0\/n=1\/n=2\/n=3:=oM;rcases h with rfl|rfl|rfl|rfl
 .exact H6 g w
 .exact H5 g w
 .exact H4 g w
 exact H3 g w
section
variable{w wr:AK}{op md a b c n bt fl:Nat}
def pK.setB(h:pK w op md a b c n bt fl wr)(v:Nat):pK w op md a b c n v fl (wr.setCell (aD (w+1+1+1) 0) (iU v)):=by
 obtain⟨⟨l,m,q,r,s⟩,⟨t,x,y⟩,⟨z,p1,p2⟩,A,⟨B,C,D⟩,⟨E,q1⟩,F,j⟩:=h;have d:∀(g o:Nat)(u:Aq),g<(w:Nat)+1+1+1->wr (aD g o)=some u->(wr.setCell (aD (w+1+1+1) 0) (iU v)) (aD g o)=some u:=λg o u H k=>by
  rw[ZA _ _ _ _ (λe=>by injection e with e _;omega)];exact k
 have f:∀(o:Nat)(u:Aq),o≠0->wr (aD (w+1+1+1) o)=some u->(wr.setCell (aD (w+1+1+1) 0) (iU v)) (aD (w+1+1+1) o)=some u:=λo u I k=>by
  rw[ZA _ _ _ _ (λe=>by injection e with _ e _;omega)];exact k
 refine⟨⟨d _ _ _ oM l,d _ _ _ oM m,d _ _ _ oM q,d _ _ _ oM r,d _ _ _ oM s⟩,⟨d _ _ _ oM t,d _ _ _ oM x,d _ _ _ oM y⟩,⟨by simpa using z,by simpa using p1,by simpa using p2⟩,λi G=>d _ _ _ oM (A i G),⟨aav _ _ _ B,f _ _ oM C,f _ _ oM D⟩,⟨by simpa using E,by simpa using q1⟩,F.setCell (p:=⟨_,_,_⟩) (by show (w:Nat)<=w+1+1+1;omega) _,by simpa using j⟩
def pK.setF(h:pK w op md a b c n bt fl wr)(v:Nat):pK w op md a b c n bt v (wr.setCell (aD (w+1+1+1) 1) (qB v)):=by
 obtain⟨⟨l,m,q,r,s⟩,⟨t,x,y⟩,⟨z,p1,p2⟩,A,⟨B,C,D⟩,⟨E,q1⟩,F,j⟩:=h;have d:∀(g o:Nat)(u:Aq),g<(w:Nat)+1+1+1->wr (aD g o)=some u->(wr.setCell (aD (w+1+1+1) 1) (qB v)) (aD g o)=some u:=λg o u H k=>by
  rw[ZA _ _ _ _ (λe=>by injection e with e _;omega)];exact k
 have f:∀(o:Nat)(u:Aq),o≠1->wr (aD (w+1+1+1) o)=some u->(wr.setCell (aD (w+1+1+1) 1) (qB v)) (aD (w+1+1+1) o)=some u:=λo u I k=>by
  rw[ZA _ _ _ _ (λe=>by injection e with _ e _;omega)];exact k
 refine⟨⟨d _ _ _ oM l,d _ _ _ oM m,d _ _ _ oM q,d _ _ _ oM r,d _ _ _ oM s⟩,⟨d _ _ _ oM t,d _ _ _ oM x,d _ _ _ oM y⟩,⟨by simpa using z,by simpa using p1,by simpa using p2⟩,λi G=>d _ _ _ oM (A i G),⟨f _ _ oM B,aav _ _ _ C,f _ _ oM D⟩,⟨by simpa using E,by simpa using q1⟩,F.setCell (p:=⟨_,_,_⟩) (by show (w:Nat)<=w+1+1+1;omega) _,by simpa using j⟩
end
def zR(op md a b c n:Nat)(S:n<=3)(B:U64 a)(C:U64 b)(D:U64 c)(w:AK):
 Bf prog 44 #[REC op md a b c,.int .i64 n] w λe w'=>e=.returned (.tuple #[nE (dX op a b c n).2.1 (dX op a b c n).2.2 false,.bool (dX op a b c n).1])/\Np w w w':=by
 have E:=λg(W:AK)=>slice3 g n S W;obtain⟨R,o⟩:∃R,dX op a b c n=R:=⟨_,rfl⟩;rw[o];replace o:=Zp o;go_enter func44,ntmps44
 go_wp2
 clear E
 go_loopw[8,10,11,23] (λs _ _ i wr=>∃k:Nat,i=.int .i64 k/\k<=n/\s=.bool (eP a b c k)/\pK w op md a b c n (lX a b c k) (gu a b c k) wr) (λ_ _ _ i _=>n-(intOf i).toNat)
 case atStart=>
  refine⟨0,rfl,Z7 _,rfl,?_,?_,?_,?_,?_,?_,?_,?_⟩
  .refine⟨?_,?_,?_,?_,?_⟩<;>(go_simp;done)
  .refine⟨?_,?_,?_⟩<;>(go_simp;done)
  .refine⟨?_,?_,?_⟩<;>(go_simp;done)
  .intro i hi;have T:i=0\/i=1\/i=2:=oM;rcases T with rfl|rfl|rfl<;>(unfold ft;go_simp;done)
  .refine⟨?_,?_,?_⟩<;>(show _=_;go_simp;try rfl)
  .refine⟨?_,?_⟩<;>(go_simp;done)
  .exact cB
  simp
 obtain⟨k,rfl,U,rfl,j⟩:=hrel;have A:=j;obtain⟨⟨r0,r1,V,X,r4⟩,⟨o0,o1,o2⟩,⟨p0,p1,p2⟩,F,⟨Y,Z,b2⟩,⟨q0,q1⟩,hB,aa⟩:=A;by_cases t:k<n
 .have ab:=F k t;have M:=Co (i:=k) B C D;have ac:=zw M;have N:eP a b c (k+1)=(eP a b c k||decide (4<=af (ft a b c k))):=rfl;have O:lX a b c (k+1)=if eP a b c k=false/\4<=af (ft a b c k)then pX (ft a b c k)else lX a b c k:=rfl;have P:gu a b c (k+1)=if af (ft a b c k)=5 then 16 else gu a b c k:=rfl;have KC:=Zp (λW=>aX (ft a b c k) W);have h6:=oV (ft a b c k);have rel:∀wr',pK w op md a b c n (lX a b c (k+1)) (gu a b c (k+1)) wr'->∀s,s=eP a b c (k+1)->∃k':Nat,Value.int .i64 ((k:Int)+1)=.int .i64 k'/\k'<=n/\Value.bool s=.bool (eP a b c k')/\pK w op md a b c n (lX a b c k') (gu a b c k') wr':=λwr' h s hs=>⟨k+1,rfl,t,by rw[hs],h⟩;rw[N,O,P]at rel;replace rel:=Zp rel;clear N O P F M B C D;generalize eP a b c k=s at*;generalize lX a b c k=z at*;generalize gu a b c k=u at*;generalize ft a b c k=x at*;generalize af x=K at*;have G:K<4\/K=4\/K=5:=oM;rcases G with h4|rfl|rfl
  .rw[Zr oM,Zr oM,show decide (4<=K)=false from Zv oM]at rel;have h4a:decide ((4:Int)<=K)=false:=Zv oM;have h4b:((K:Int)==5)=false:=by rw[Zs];omega
   go_wp2_with(go_at_call 42;refine gW (KC.out _) ?_)
   go_roundw
   case rel=>exact rel.out _ j _ (by rw[aaW])
   simp[intOf];omega
  .rw[Zr (show¬4=5 by decide)]at rel;cases s
   .rw[ZC ⟨rfl,Zo _⟩]at rel
    go_wp2_with(go_at_call 42;refine gW (KC.out _) ?_)
    go_roundw
    case rel=>exact rel.out _ (j.setB _) _ sM
    simp[intOf];omega
   rw[Zr sM]at rel
   go_wp2_with(go_at_call 42;refine gW (KC.out _) ?_)
   go_roundw
   case rel=>exact rel.out _ j _ sM
   simp[intOf];omega
  rw[ZC rfl]at rel;cases s
  .rw[ZC ⟨rfl,dC⟩]at rel
   go_wp2_with(go_at_call 42;refine gW (KC.out _) ?_)
   go_roundw
   case rel=>exact rel.out _ ((j.setB _).setF 16) _ sM
   simp[intOf];omega
  rw[Zr sM]at rel
  go_wp2_with(go_at_call 42;refine gW (KC.out _) ?_)
  go_roundw
  case rel=>exact rel.out _ (j.setF 16) _ sM
  simp[intOf];omega
 obtain rfl:k=n:=oM;clear t U F;by_cases q:eP a b c k=false
 .have f:=oT (op:=op) q;rw[o.out]at f;subst f;rw[q];obtain⟨z1,z2⟩:=xI q;rw[z1]at Y;rw[z2]at Z;clear j q o
  go_wp2_with fail
  exact bR ⟨rfl,cB⟩
 rw[Bool.not_eq_false]at q;have f:R=(if op=5/\af c=4/\((af a=0/\af b=3)\/(af a=3/\af b=0))then(true,9221120237041090560,16)
  else if op=9/\gu a b c k=0/\(af a=3\/af b=3)then(true,9218868437227405312,0)else(true,lX a b c k,gu a b c k)):=by rw[<-o.out];unfold dX;rw[Zr (by rw[q];decide)]
 replace f:=Zp f;clear o;rw[q];generalize lX a b c k=z at*;generalize gu a b c k=u at*;have Ka:=Zp (λW=>aX a W);have Kb:=Zp (λW=>aX b W);have p:=Zp (λW=>aX c W);generalize af a=v at*;generalize af b=y at*;generalize af c=Q at*;clear j q B C D;go_upto_region 16 with(fail);go_cut[12] (λs wx=>s=pT (w+4) 0/\(aC wr #[.int .i64 v,.int .i64 y] 113).drew=wx)
 case first=>
  go_region_held3(λw'=>(w' (aD w 2)=some (.int .u64 a)/\w' (aD w 3)=some (.int .u64 b)))
   (first
    |exact⟨V,X⟩
    |go_keep)
   (first
    |(go_at_call_of 42 (Value.int IntKind.u64 a);refine gW (Ka.out _) ?_)
    |(go_at_call_of 42 (Value.int IntKind.u64 b);refine gW (Kb.out _) ?_))
  all_goals(go_wp2_with fail;go_meet;exact⟨rfl,rfl⟩)
 obtain⟨rfl,rfl⟩:=hcut;by_cases h5:op=5
 .subst h5;by_cases H:Q=4
  .subst H;by_cases I:v=0/\y=3
   .obtain⟨rfl,rfl⟩:=I;(obtain rfl:R=(true,9221120237041090560,16):=by rw[f.out];simp);clear f
    go_wp2_with(first|(go_at_call 42;refine gW (p.out _) ?_)|(go_at_call 61;refine gB (cP _) λr d=>?_;obtain⟨l,m⟩:=de d))
    all_goals exact bR ⟨rfl,cB⟩
   by_cases J:v=3/\y=0
   .obtain⟨rfl,rfl⟩:=J;(obtain rfl:R=(true,9221120237041090560,16):=by rw[f.out];simp);clear f
    go_wp2_with(first|(go_at_call 42;refine gW (p.out _) ?_)|(go_at_call 61;refine gB (cP _) λr d=>?_;obtain⟨l,m⟩:=de d))
    all_goals exact bR ⟨rfl,cB⟩
   (have f1:((v:Int)==0&&(y:Int)==3)=false:=by rw[acK,Zs,Zs];omega);(have f2:((v:Int)==3&&(y:Int)==0)=false:=by rw[acK,Zs,Zs];omega);(obtain rfl:R=(true,z,u):=by rw[f.out];rw[Zr oM,Zr oM]);clear f
   go_wp2_with(first|(go_at_call 42;refine gW (p.out _) ?_)|(go_at_call 61;refine gB (cP _) λr d=>?_;obtain⟨l,m⟩:=de d))
   all_goals exact bR ⟨rfl,cB⟩
  have f1:((Q:Int)==4)=false:=by rw[Zs];omega
  obtain rfl:R=(true,z,u):=by rw[f.out];rw[Zr oM,Zr oM]
  clear f
  go_wp2_with(first|(go_at_call 42;refine gW (p.out _) ?_)|(go_at_call 61;refine gB (cP _) λr d=>?_;obtain⟨l,m⟩:=de d))
  all_goals exact bR ⟨rfl,cB⟩
 have f5:((op:Int)==5)=false:=by rw[Zs];omega
 by_cases h9:op=9
 .subst h9;by_cases L:u=0
  .subst L;by_cases I:v=3
   .subst I;(obtain rfl:R=(true,9218868437227405312,0):=by rw[f.out];simp);clear f
    go_wp2_with(first|(go_at_call 42;refine gW (p.out _) ?_)|(go_at_call 61;refine gB (cP _) λr d=>?_;obtain⟨l,m⟩:=de d))
    all_goals exact bR ⟨rfl,cB⟩
   (have f1:((v:Int)==3)=false:=by rw[Zs];omega);by_cases J:y=3
   .subst J;(obtain rfl:R=(true,9218868437227405312,0):=by rw[f.out];simp);clear f
    go_wp2_with(first|(go_at_call 42;refine gW (p.out _) ?_)|(go_at_call 61;refine gB (cP _) λr d=>?_;obtain⟨l,m⟩:=de d))
    all_goals exact bR ⟨rfl,cB⟩
   (have f2:((y:Int)==3)=false:=by rw[Zs];omega);(obtain rfl:R=(true,z,0):=by rw[f.out];rw[Zr oM,Zr oM]);clear f
   go_wp2_with(first|(go_at_call 42;refine gW (p.out _) ?_)|(go_at_call 61;refine gB (cP _) λr d=>?_;obtain⟨l,m⟩:=de d))
   all_goals exact bR ⟨rfl,cB⟩
  have f1:((u:Int)==0)=false:=by rw[Zs];omega
  obtain rfl:R=(true,z,u):=by rw[f.out];rw[Zr oM,Zr oM]
  clear f
  go_wp2_with(first|(go_at_call 42;refine gW (p.out _) ?_)|(go_at_call 61;refine gB (cP _) λr d=>?_;obtain⟨l,m⟩:=de d))
  all_goals exact bR ⟨rfl,cB⟩
 have f9:((op:Int)==9)=false:=by rw[Zs];omega
 obtain rfl:R=(true,z,u):=by rw[f.out];rw[Zr oM,Zr oM]
 clear f
 go_wp2_with(first|(go_at_call 42;refine gW (p.out _) ?_)|(go_at_call 61;refine gB (cP _) λr d=>?_;obtain⟨l,m⟩:=de d))
 all_goals exact bR ⟨rfl,cB⟩
end
section
open Go.RowKit
def ki(op:Nat):FuncId:=if op=1 then 130 else if op=2 then 131 else if op=3 then 132 else if op=4 then 133 else if op=5 then 134 else if op=6 then 135 else if op=7 then 136 else if op=8 then 137 else if op=9 then 138 else 139
def aT(w:AK):Prop:=∀op,1<=op->op<=10->w (aD 0 (op*2))=iI (cU op)/\w (aD 0 (op*2+1))=some (.func (.func (ki op)) #[] #[])
def aT.below{w w':AK}{B:Nat}(h:aT w)(g:w<=B)(c:Np B w w'):aT w':=λop e f=>by
 obtain⟨a,b⟩:=h op e f;have d:=aaz _ _ a;exact⟨by rw[c.cell (p:=aD 0 _) (by simp at d⊢;omega)];exact a,by rw[c.cell (p:=aD 0 _) (by simp at d⊢;omega)];exact b⟩
def BS(P:E2)(w:AK)(a:Es)(m:Mode)(fn:Fn)(first b:Array Aq):(store a (.func fn first b) m).run P w=stored P w a (.func fn first b) m:=run_store P w a _ m rfl
attribute[local go_sem] BS
def ai(b f:Nat)(a:Bool)(w:AK)(e:Ending)(w':AK):Prop:=e=.returned (nE b f a)/\Np w w w'
def ER(op md a b c:Nat)(h:((op:Int)==0))(w:AK):Bf prog 29 #[REC op md a b c] w (ai 0 0 true w):=by
 go_enter func29,ntmps29
 go_wp2_with fail
 exact bR ⟨rfl,cB⟩
def EU(op md a b c:Nat)(h:11<=op)(d:op<256)(w:AK):Bf prog 29 #[REC op md a b c] w (ai 0 0 true w):=by
 have f1:((op:Int)==0)=false:=by rw[Zs];omega
 have f2:decide ((11:Int)<=op):=ZP oM;go_enter func29,ntmps29
 go_wp2_with fail
 exact bR ⟨rfl,cB⟩
def ET(op md a b c:Nat)(d:op≠0)(e:op<11)(h:5<=md)(w:AK):Bf prog 29 #[REC op md a b c] w (ai 0 0 true w):=by
 have f1:((op:Int)==0)=false:=by rw[Zs];omega
 have f2:decide ((11:Int)<=op)=false:=Zv oM;have f3:decide ((4:Int)<md):=ZP oM;go_enter func29,ntmps29
 go_wp2_with fail
 exact bR ⟨rfl,cB⟩
def Lj(op md a b c g i:Nat)(r:op≠0)(s:op<11)(h:¬5<=md)(k:U64 a)(l:U64 b)(m:U64 c)(o:dX op a b c (cU op)=(true,g,i))(w:AK)(p:aT w):
 Bf prog 29 #[REC op md a b c] w (ai g i false w):=by
 have f1:((op:Int)==0)=false:=by rw[Zs];omega
 have f2:decide ((11:Int)<=op)=false:=Zv oM;have f3:decide ((4:Int)<md)=false:=Zv oM;obtain⟨t0,t1⟩:=p op oM oM;have C:=Zp (λW=>zR op md a b c _ (xJ op) k l m W);rw[o]at C;generalize cU op=n at*;generalize ki op=f at*;have q:=aaz _ _ t0;simp only at q;clear o h k l m p;go_enter func29,ntmps29
 go_wp2_with fail
 refine(C.out _).mono ?_;rintro e j⟨rfl,d⟩;have aJ:=(d).size;(try simp at aJ);have kL:(w:Nat)<j:=oM;have kK:(w:Nat)+1<j:=oM;have afd:(w:Nat)+1+1<j:=oM;obtain⟨cD,cC⟩:=bcC (w+1+1+1) d
 go_wp2_with fail
 refine aaT (v:=nE g i false) (by simp[results,results29,go_sem, *]) rfl ⟨rfl,?_⟩;exact cB
def mz(op md a b c i j:Nat)(t:∀(args:Array Aq)(w:AK),(callFunc (ki op) args).run prog w=.ok (.enter (ki op) args) w)(u:op≠0)(x:op<11)(h:¬5<=md)(m:U64 a)(o:U64 b)(p:U64 c)(q:dX op a b c (cU op)=(false,0,0))
 (D:Hid (∀W,Bf prog (ki op) #[REC op md a b c] W (ai i j false W)))(w:AK)(r:aT w):
 Bf prog 29 #[REC op md a b c] w (ai i j false w):=by
 have f1:((op:Int)==0)=false:=by rw[Zs];omega
 have f2:decide ((11:Int)<=op)=false:=Zv oM;have f3:decide ((4:Int)<md)=false:=Zv oM;obtain⟨t0,t1⟩:=r op oM oM;have C:=Zp (λW=>zR op md a b c _ (xJ op) m o p W);rw[q]at C;generalize cU op=n at*;generalize ki op=f at*;have s:=aaz _ _ t0;simp only at s;clear q h m o p r;go_enter func29,ntmps29
 go_wp2_with fail
 refine(C.out _).mono ?_;rintro e k⟨rfl,d⟩;have aJ:=(d).size;(try simp at aJ);have kL:(w:Nat)<k:=oM;have kK:(w:Nat)+1<k:=oM;have afd:(w:Nat)+1+1<k:=oM;obtain⟨cD,cC⟩:=bcC (w+1+1+1) d
 go_wp2_with fail
 refine(D.out _).mono ?_;rintro e l⟨rfl,g⟩;have aU:=(g).size;(try simp at aU);have kJ:(w:Nat)<l:=oM;have kI:(w:Nat)+1<l:=oM;have afg:(w:Nat)+1+1<l:=oM;obtain⟨en,ei⟩:=bcC (w+1+1) g
 go_wp2_with fail
 refine aaT (v:=nE i j false) (by simp[results,results29,go_sem, *]) rfl ⟨rfl,?_⟩;exact cB
def G5(op md a b c:Nat)(w:AK):Bf prog 139 #[REC op md a b c] w (ai 0 0 false w):=by
 go_enter func139,ntmps139
 go_wp2_with fail
 exact bR ⟨rfl,cB⟩
def Bq(md a b c:Nat)(h:¬5<=md)(d:U64 a)(e:U64 b)(f:U64 c)(w:AK)(g:aT w):Bf prog 29 #[REC 10 md a b c] w (ai 0 0 false w):=
 mz 10 md a b c 0 0 (λargs w=>call139 args w) dC dC h d e f (oT rfl) (λW=>G5 10 md a b c W) w g
end
section
open Go.ChangeShapes Go.WideShapes Go.Deep
def yr(w:AK)(Q:Aq->Prop)(p:Es):Prop:=
 ∃(a b op md:Int)(x y z:Nat)(L:Aq),w p=iI a/\w (p.add 1)=iI b/\w (p.add 2)=iI op/\w (p.add 3)=iI md/\
  w (p.add 4)=iU x/\w (p.add 5)=iU y/\w (p.add 6)=iU z/\w (p.add 7)=L/\
  (Lit.int .i64 a).wf/\(Lit.int .i64 b).wf/\(Lit.int .i64 op).wf/\(Lit.int .i64 md).wf/\U64 x/\U64 y/\U64 z/\Q L
def dJ{n:Int}(h:(Lit.int .u64 n).wf):∃x:Nat,n=x/\U64 x:=by
 simp[Lit.wf,IntKind.min,IntKind.max,IntKind.signed,IntKind.bits]at h;refine⟨n.toNat,oM,?_⟩;unfold U64;omega
def nj:prog.cellsOf 31=8:=by kernel_rfl
def ue:prog.cellsOf 28=5:=by kernel_rfl
def mg:prog.cellsOf 3=1:=by kernel_rfl
def tZ:prog.cellsOf 26=1:=by kernel_rfl
def EC:prog.cellsOf 29=1:=by kernel_rfl
section
variable{H:Type}{enc:E1×Aq->H}{w:AK}{base:Nat}{spare:Nat->Bool}{held:Bool}
def r8(enc:E1×Aq->H)(w:AK)(base:Nat)(spare:Nat->Bool)(held:Bool)(L:Aq):Prop:=∃n y,DataW.trod enc prog w base spare held n 29 [L]=some y
def zJ{fuel:Nat}{cs:List Aq}{x:DataW H×List MemPlace}(h:DataW.trod enc prog w base spare held fuel 22 cs=x):
 cs=[.slice none 0 0]\/∃(a:Es)(c cap:Nat),cs=[.slice a c cap]/\c<=cap/\cap<=maxLen/\∀i,i<c->yr w (r8 enc w base spare held) (a.add (i*8)):=by
 rcases open_slice underlying22 h with⟨G,_⟩|⟨a,c,cap,m,n,D,Pl,g,_,I,J,j,_,K⟩
 .exact .inl G
 refine .inr ⟨a,c,cap,g,I,J,λi L=>?_⟩;have k:i<m:=by rw[j];split<;>omega
 obtain⟨l,q,M⟩:=K i k;rw[nj]at q;obtain⟨_,d,b⟩:=adi q;rw[<-nj]at d;obtain⟨N,n',_,_,_,o,f⟩:=ab6 underlying31 M;rw[nj]at d
 match l,d with
 |[c0,c1,c2,c3,c4,c5,c6,O],_=>
  match N,o with
  |[y0,y1,y2,y3],_=>
   have f0:=f 0 {name:= "Kind",type:=3,offset:=0,embedded:=false,tag:= "",pkgPath:= "",byteOffset:=0} rfl;have f1:=f 1 {name:= "A",type:=3,offset:=1,embedded:=false,tag:= "",pkgPath:= "",byteOffset:=8} rfl;have f2:=f 2 {name:= "R",type:=28,offset:=2,embedded:=false,tag:= "",pkgPath:= "",byteOffset:=16} rfl;have f3:=f 3 {name:= "L",type:=29,offset:=7,embedded:=false,tag:= "",pkgPath:= "",byteOffset:=56} rfl;simp only[mg,ue,EC,acf,abB,abA,ace,ZE,ZI]at f0 f1 f2 f3;obtain⟨P,n2,_,_,_,p,e⟩:=ab6 underlying28 f2
   match P,p with
   |[z0,z1,z2,z3,z4],_=>
    have r:=e 0 {name:= "Op",type:=3,offset:=0,embedded:=false,tag:= "",pkgPath:= "",byteOffset:=0} rfl;have s:=e 1 {name:= "Mode",type:=3,offset:=1,embedded:=false,tag:= "",pkgPath:= "",byteOffset:=8} rfl;have t:=e 2 {name:= "A",type:=26,offset:=2,embedded:=false,tag:= "",pkgPath:= "",byteOffset:=16} rfl;have u:=e 3 {name:= "B",type:=26,offset:=3,embedded:=false,tag:= "",pkgPath:= "",byteOffset:=24} rfl;have v:=e 4 {name:= "C",type:=26,offset:=4,embedded:=false,tag:= "",pkgPath:= "",byteOffset:=32} rfl;simp only[mg,tZ,acf,abB,abA,ace,ZE,ZI]at r s t u v;obtain⟨Q,A,_,R⟩:=aaI underlying3 f0;obtain⟨S,e1,_,T⟩:=aaI underlying3 f1;obtain⟨op,e2,_,U⟩:=aaI underlying3 r;obtain⟨md,B,_,V⟩:=aaI underlying3 s;obtain⟨x,C,_,W⟩:=aaI underlying26 t;obtain⟨y,E,_,X⟩:=aaI underlying26 u;obtain⟨z,F,_,Y⟩:=aaI underlying26 v;simp only[abd,and_true]at A e1 e2 B C E F;subst A e1 e2 B C E F;obtain⟨x,rfl,Z⟩:=dJ W;obtain⟨y,rfl,hy⟩:=dJ X;obtain⟨z,rfl,hz⟩:=dJ Y;refine⟨Q,S,op,md,x,y,z,O,?_,b 1 oM,b 2 oM,b 3 oM,b 4 oM,b 5 oM,b 6 oM,b 7 oM,R,T,U,V,Z,hy,hz,⟨_,_,f3⟩⟩;have:=b 0 oM
    rwa [show(a.add (i*8)).add 0=a.add (i*8)from rfl]at this
end
end
section
open Go.RowKit
variable{H:Type}{hd:Bool}{sp:Nat->Bool}
def Vm(L:Aq):Prop:=∃A n c,L=.slice A n c
def StepsIn(w:AK)(A:Option Es)(b:Nat):Prop:=∀i,i<b->∃a,A=some a/\a.block<w/\∃Q:Aq->Prop,(∀L,Q L->Vm L)/\yr w Q (a.add (i*8))
def uP{b:E1×Aq->H}{w:AK}{base:Nat}{L:Aq}(h:r8 b w base sp hd L):Vm L:=by
 obtain⟨n,y,h⟩:=h;rcases Go.Deep.open_slice underlying29 h with⟨e,_⟩|⟨a,c,cap,m,n,D,f,d,_⟩
 .exact⟨none,0,0,by simpa using e⟩
 exact⟨some a,c,cap,by simpa using d⟩
def BU{c:E1×Aq->H}{W:AK}{base:Nat}{A:Option Es}{b:Nat}(h:∀i,i<b->∃a,A=some a/\a.block<W/\yr W (r8 c W base sp hd) (a.add (i*8))):StepsIn W A b:=λi d=>by
 obtain⟨a,e,f,g⟩:=h i d;exact⟨a,e,f,_,λ_ h=>uP h,g⟩
end
section
open Go.RowKit
abbrev eV(op md a b c:Nat):Aq:=.agg #[iI op,iI md,iU a,iU b,iU c]
def yv(n a b c:Nat)(w:AK)(e:Ending)(w':AK):Prop:=∃g,e=.returned (qL g 0 n n)/\(∀i,i<n->w' (aD g i)=iU (ft a b c i))/\Np w w w'
def Cp(md a b c:Nat)(w:AK):Bf prog 62 #[eV 5 md a b c] w (yv 3 a b c w):=by
 go_enter func62,ntmps62
 go_wp2
 go_ret
 refine⟨_,rfl,λi e=>?_,?_⟩
 .have d:i=0\/i=1\/i=2:=oM;rcases d with rfl|rfl|rfl<;>(unfold ft;go_simp;done)
 exact cB
def Cr(op md a b c:Nat)(h:op=6\/op=7\/op=8)(w:AK):Bf prog 62 #[eV op md a b c] w (yv 1 a b c w):=by
 rcases h with rfl|rfl|rfl
 all_goals
  go_enter func62,ntmps62
  go_wp2
  go_ret
  refine⟨_,rfl,λi e=>?_,?_⟩
  .have d:i=0:=oM;subst d;(unfold ft;go_simp;done)
  exact cB
def Cq(op md a b c:Nat)(e:((op:Int)==5)=false)(f:((op:Int)==6)=false)(g:((op:Int)==7)=false)(h:((op:Int)==8)=false)(w:AK):Bf prog 62 #[eV op md a b c] w (yv 2 a b c w):=by
 go_enter func62,ntmps62
 go_wp2
 go_ret
 refine⟨_,rfl,λi j=>?_,?_⟩
 .have d:i=0\/i=1:=oM;rcases d with rfl|rfl<;>(unfold ft;go_simp;done)
 exact cB
def xG(op md a b c:Nat)(d:op≠10)(w:AK):Bf prog 62 #[eV op md a b c] w (yv (cU op) a b c w):=by
 unfold cU;by_cases f:op=5
 .subst f;rw[ZC rfl];exact Cp md a b c w
 rw[Zr f];by_cases e:op=6\/op=7\/op=8
 .rw[ZC e];exact Cr op md a b c e w
 rw[Zr e,Zr d];exact Cq op md a b c (by rw[Zs];omega) (by rw[Zs];omega) (by rw[Zs];omega) (by rw[Zs];omega) w
def jI(a b c k:Nat)(F:Int):Prop:=(F=-1/\eP a b c k=false)\/∃j:Nat,F=j/\j<k/\eP a b c k/\lX a b c k=pX (ft a b c j)
def CW{a b c k:Nat}{F:Int}(h:jI a b c k F):(af (ft a b c k)<4->jI a b c (k+1) F)/\(4<=af (ft a b c k)->F<0->jI a b c (k+1) k)/\(4<=af (ft a b c k)->0<=F->jI a b c (k+1) F):=by
 have g:eP a b c (k+1)=(eP a b c k||decide (4<=af (ft a b c k))):=rfl;have i:lX a b c (k+1)=if eP a b c k=false/\4<=af (ft a b c k)then pX (ft a b c k)else lX a b c k:=rfl;unfold jI;rw[g,i];rcases h with⟨rfl,h⟩|⟨j,rfl,m,l,f⟩
 .rw[h];refine⟨λd=>.inl ⟨rfl,?_⟩,λd _=>.inr ⟨k,rfl,oM,?_,?_⟩,λ_ e=>absurd e dC⟩
  .rw[Zv oM];rfl
  .rw[ZP d];rfl
  rw[ZC ⟨rfl,d⟩]
 rw[l];refine⟨λd=>.inr ⟨j,rfl,oM,rfl,?_⟩,λ_ e=>absurd e oM,λd _=>.inr ⟨j,rfl,oM,rfl,?_⟩⟩
 .rw[Zr sM];exact f
 rw[Zr sM];exact f
def dT(op md a b c:Nat)(O:op≠10)(H:U64 a)(I:U64 b)(J:U64 c)(w:AK):
 Bf prog 45 #[eV op md a b c] w λe w'=>e=.returned (.tuple #[RV (dX op a b c (cU op)).2.1 (dX op a b c (cU op)).2.2 false,.bool (dX op a b c (cU op)).1])/\Np w w w':=by
 have C:=Zp (λW=>xG op md a b c O W);obtain⟨R,m⟩:∃R,dX op a b c (cU op)=R:=⟨_,rfl⟩;rw[m];replace m:=Zp m;have hn:=xJ op;generalize cU op=n at*;go_enter func45,ntmps45
 go_wp2_with fail
 refine(C.out _).mono ?_;rintro e o⟨g,rfl,L,p⟩;have P:=p.size;have Q:(o (aD w 0)=some (.int .i64 op)/\o (aD w 1)=some (.int .i64 md)/\o (aD w 2)=some (.int .u64 a)/\o (aD w 3)=some (.int .u64 b)/\o (aD w 4)=some (.int .u64 c))/\(o (aD (w+1) 0)=some (.int .u64 0)/\o (aD (w+1) 1)=some (.int .i64 0)/\o (aD (w+1) 2)=some (.bool false))/\(o.frozen? (aD (w+1) 0)=false/\o.frozen? (aD (w+1) 1)=false/\o.frozen? (aD (w+1) 2)=false):=by
  refine⟨⟨?_,?_,?_,?_,?_⟩,⟨?_,?_,?_⟩,?_,?_,?_⟩;all_goals first|(rw[p.cell (by first|(simp;done)|(simp;omega))];go_simp;done)|(rw[p.frozen (by first|(simp;done)|(simp;omega))];go_simp;done)
 have hB:Np w w o:=by
  have Z:Np w w (aC (aC w #[.int .i64 op,.int .i64 md,.int .u64 a,.int .u64 b,.int .u64 c] 68) #[.int .u64 0,.int .i64 0,.bool false] 66):=((Zx _ w).alloc sM _).alloc sM _;exact Z.trans (p.mono Z.size)
 obtain⟨⟨r0,r1,r2,r3,r4⟩,⟨o0,o1,o2⟩,p0,p1,p2⟩:=Q;clear p C P
 go_wp2_with fail
 go_loopw[5,6,7,8] (λf l i _ wr=>∃(k:Nat)(F:Int),i=.int .i64 k/\k<=n/\f=.int .i64 F/\Hid (jI a b c k F)/\l=.int .i64 (gu a b c k)/\o=wr) (λ_ _ i _ _=>n-(intOf i).toNat)
 case atStart=>exact⟨0,-1,rfl,Z7 _,rfl,.inl ⟨rfl,rfl⟩,rfl,rfl⟩
 obtain⟨k,F,rfl,Q,rfl,B,rfl,rfl⟩:=hrel;by_cases t:k<n
 .have hxk:=L k t;have ux:=Co (i:=k) H I J;have sF:gu a b c (k+1)=if af (ft a b c k)=5 then 16 else gu a b c k:=rfl;have KC:=Zp (λW=>bN (ft a b c k) ux W);have h6:=oV (ft a b c k);obtain⟨s1,s2,M⟩:=CW B.out;have rel:∀(N:Int),jI a b c (k+1) N->∀l,l=gu a b c (k+1)->∃(k':Nat)(D:Int),Value.int .i64 ((k:Int)+1)=.int .i64 k'/\k'<=n/\Value.int .i64 N=.int .i64 D/\Hid (jI a b c k' D)/\Value.int .i64 (l:Nat)=.int .i64 (gu a b c k')/\o=o:=λN h l hl=>⟨k+1,N,rfl,t,rfl,h,by rw[hl],rfl⟩;rw[sF]at rel;replace rel:=Zp rel;replace s1:=Zp s1;replace s2:=Zp s2;replace M:=Zp M;clear sF L ux B;generalize gu a b c k=u at*;generalize ft a b c k=x at*;generalize af x=K at*;have S:K<4\/K=4\/K=5:=oM;rcases S with h4|rfl|rfl
  .rw[Zr oM]at rel;have h4a:decide ((4:Int)<=K)=false:=Zv oM;have h4b:((K:Int)==5)=false:=by rw[Zs];omega
   go_wp2_with(go_at_call 43;refine gW (KC.out _) ?_)
   go_roundw
   case rel=>exact rel.out _ (s1.out h4) _ rfl
   simp[intOf];omega
  .rw[Zr (show¬4=5 by decide)]at rel;by_cases v:F<0
   .go_wp2_with(go_at_call 43;refine gW (KC.out _) ?_)
    go_roundw
    case rel=>exact rel.out _ (s2.out (Zo _) v) _ rfl
    simp[intOf];omega
   go_wp2_with(go_at_call 43;refine gW (KC.out _) ?_)
   go_roundw
   case rel=>exact rel.out _ (M.out (Zo _) oM) _ rfl
   simp[intOf];omega
  rw[ZC rfl]at rel;by_cases v:F<0
  .go_wp2_with(go_at_call 43;refine gW (KC.out _) ?_)
   go_roundw
   case rel=>exact rel.out _ (s2.out dC v) 16 rfl
   simp[intOf];omega
  go_wp2_with(go_at_call 43;refine gW (KC.out _) ?_)
  go_roundw
  case rel=>exact rel.out _ (M.out dC oM) 16 rfl
  simp[intOf];omega
 obtain rfl:k=n:=oM;clear t Q;rcases B.out with⟨rfl,y⟩|⟨j,rfl,hj,y,E⟩
 .have d:=oT (op:=op) y;rw[m.out]at d;subst d;obtain⟨z1,z2⟩:=xI y;rw[z2];clear y m B
  go_wp2_with fail
  exact bR ⟨rfl,cB⟩
 have hxj:=L j hj;have T:=zw (Co (i:=j) H I J);have d:R=(if op=5/\af c=4/\((af a=0/\af b=3)\/(af a=3/\af b=0))then(true,9221120237041090560,16)
  else if op=9/\gu a b c k=0/\(af a=3\/af b=3)then(true,9218868437227405312,0)else(true,lX a b c k,gu a b c k)):=by rw[<-m.out];unfold dX;rw[Zr (by rw[y];decide)]
 replace d:=Zp d;rw[<-E]at T;have q:=Zp (λW=>bN a H W);have r:=Zp (λW=>bN b I W);have s:=Zp (λW=>bN c J W);clear m B L y E H I J;generalize lX a b c k=G at*;generalize gu a b c k=u at*;generalize ft a b c j=x at*;generalize af a=z at*;generalize af b=A at*;generalize af c=kc at*;by_cases h5:op=5
 .subst h5;by_cases U:kc=4
  .subst U;by_cases V:z=0/\A=3
   .obtain⟨rfl,rfl⟩:=V;(obtain rfl:R=(true,9221120237041090560,16):=by rw[d.out];simp);clear d
    go_wp2_with(first|(go_at_call_of 43 (Value.int IntKind.u64 a);refine gW (q.out _) ?_)|(go_at_call_of 43 (Value.int IntKind.u64 b);refine gW (r.out _) ?_)|(go_at_call_of 43 (Value.int IntKind.u64 c);refine gW (s.out _) ?_))
    all_goals exact bR ⟨rfl,cB⟩
   by_cases X:z=3/\A=0
   .obtain⟨rfl,rfl⟩:=X;(obtain rfl:R=(true,9221120237041090560,16):=by rw[d.out];simp);clear d
    go_wp2_with(first|(go_at_call_of 43 (Value.int IntKind.u64 a);refine gW (q.out _) ?_)|(go_at_call_of 43 (Value.int IntKind.u64 b);refine gW (r.out _) ?_)|(go_at_call_of 43 (Value.int IntKind.u64 c);refine gW (s.out _) ?_))
    all_goals exact bR ⟨rfl,cB⟩
   (have f1:((z:Int)==0&&(A:Int)==3)=false:=by rw[acK,Zs,Zs];omega);(have f2:((z:Int)==3&&(A:Int)==0)=false:=by rw[acK,Zs,Zs];omega);(obtain rfl:R=(true,G,u):=by rw[d.out];rw[Zr oM,Zr oM]);clear d
   go_wp2_with(first|(go_at_call_of 43 (Value.int IntKind.u64 a);refine gW (q.out _) ?_)|(go_at_call_of 43 (Value.int IntKind.u64 b);refine gW (r.out _) ?_)|(go_at_call_of 43 (Value.int IntKind.u64 c);refine gW (s.out _) ?_))
   all_goals exact bR ⟨rfl,cB⟩
  have f1:((kc:Int)==4)=false:=by rw[Zs];omega
  obtain rfl:R=(true,G,u):=by rw[d.out];rw[Zr oM,Zr oM]
  clear d
  go_wp2_with(first|(go_at_call_of 43 (Value.int IntKind.u64 a);refine gW (q.out _) ?_)|(go_at_call_of 43 (Value.int IntKind.u64 b);refine gW (r.out _) ?_)|(go_at_call_of 43 (Value.int IntKind.u64 c);refine gW (s.out _) ?_))
  all_goals exact bR ⟨rfl,cB⟩
 have f5:((op:Int)==5)=false:=by rw[Zs];omega
 by_cases h9:op=9
 .subst h9;by_cases Y:u=0
  .subst Y;by_cases V:z=3
   .subst V;(obtain rfl:R=(true,9218868437227405312,0):=by rw[d.out];simp);clear d
    go_wp2_with(first|(go_at_call_of 43 (Value.int IntKind.u64 a);refine gW (q.out _) ?_)|(go_at_call_of 43 (Value.int IntKind.u64 b);refine gW (r.out _) ?_)|(go_at_call_of 43 (Value.int IntKind.u64 c);refine gW (s.out _) ?_))
    all_goals exact bR ⟨rfl,cB⟩
   (have f1:((z:Int)==3)=false:=by rw[Zs];omega);by_cases X:A=3
   .subst X;(obtain rfl:R=(true,9218868437227405312,0):=by rw[d.out];simp);clear d
    go_wp2_with(first|(go_at_call_of 43 (Value.int IntKind.u64 a);refine gW (q.out _) ?_)|(go_at_call_of 43 (Value.int IntKind.u64 b);refine gW (r.out _) ?_)|(go_at_call_of 43 (Value.int IntKind.u64 c);refine gW (s.out _) ?_))
    all_goals exact bR ⟨rfl,cB⟩
   (have f2:((A:Int)==3)=false:=by rw[Zs];omega);(obtain rfl:R=(true,G,0):=by rw[d.out];rw[Zr oM,Zr oM]);clear d
   go_wp2_with(first|(go_at_call_of 43 (Value.int IntKind.u64 a);refine gW (q.out _) ?_)|(go_at_call_of 43 (Value.int IntKind.u64 b);refine gW (r.out _) ?_)|(go_at_call_of 43 (Value.int IntKind.u64 c);refine gW (s.out _) ?_))
   all_goals exact bR ⟨rfl,cB⟩
  have f1:((u:Int)==0)=false:=by rw[Zs];omega
  obtain rfl:R=(true,G,u):=by rw[d.out];rw[Zr oM,Zr oM]
  clear d
  go_wp2_with(first|(go_at_call_of 43 (Value.int IntKind.u64 a);refine gW (q.out _) ?_)|(go_at_call_of 43 (Value.int IntKind.u64 b);refine gW (r.out _) ?_)|(go_at_call_of 43 (Value.int IntKind.u64 c);refine gW (s.out _) ?_))
  all_goals exact bR ⟨rfl,cB⟩
 have f9:((op:Int)==9)=false:=by rw[Zs];omega
 obtain rfl:R=(true,G,u):=by rw[d.out];rw[Zr oM,Zr oM]
 clear d
 go_wp2_with(first|(go_at_call_of 43 (Value.int IntKind.u64 a);refine gW (q.out _) ?_)|(go_at_call_of 43 (Value.int IntKind.u64 b);refine gW (r.out _) ?_)|(go_at_call_of 43 (Value.int IntKind.u64 c);refine gW (s.out _) ?_))
 all_goals exact bR ⟨rfl,cB⟩
end
section
open Go.RowKit
def ah(b f:Nat)(a:Bool)(w:AK)(e:Ending)(w':AK):Prop:=e=.returned (RV b f a)/\Np w w w'
def IC(op md a b c:Nat)(h:decide ((op:Int)<1))(w:AK):Bf prog 35 #[eV op md a b c] w (ah 0 0 true w):=by
 go_enter func35,ntmps35
 go_wp2_with fail
 exact bR ⟨rfl,cB⟩
def IE(op md a b c:Nat)(h:11<=op)(w:AK):Bf prog 35 #[eV op md a b c] w (ah 0 0 true w):=by
 have f1:decide ((op:Int)<1)=false:=Zv oM;have f2:decide ((10:Int)<op):=ZP oM;go_enter func35,ntmps35
 go_wp2_with fail
 exact bR ⟨rfl,cB⟩
def ID(op md a b c:Nat)(d:op≠0)(e:op<11)(h:5<=md)(w:AK):Bf prog 35 #[eV op md a b c] w (ah 0 0 true w):=by
 have f1:decide ((op:Int)<1)=false:=Zv oM;have f2:decide ((10:Int)<op)=false:=Zv oM;have f3:decide ((4:Int)<md):=ZP oM;go_enter func35,ntmps35
 go_wp2_with fail
 exact bR ⟨rfl,cB⟩
def Ga(md a b c:Nat)(h:¬5<=md)(w:AK):Bf prog 35 #[eV 10 md a b c] w (ah 0 0 false w):=by
 have f3:decide ((4:Int)<md)=false:=Zv oM;go_enter func35,ntmps35
 go_wp2_with fail
 exact bR ⟨rfl,cB⟩
def Me(op md a b c f g:Nat)(n:op≠0)(o:op<10)(h:¬5<=md)(i:U64 a)(j:U64 b)(k:U64 c)(l:dX op a b c (cU op)=(true,f,g))(w:AK):Bf prog 35 #[eV op md a b c] w (ah f g false w):=by
 have f1:decide ((op:Int)<1)=false:=Zv oM;have f2:decide ((10:Int)<op)=false:=Zv oM;have f3:decide ((4:Int)<md)=false:=Zv oM;have f4:((op:Int)==10)=false:=by rw[Zs];omega
 have C:=Zp (λW=>dT op md a b c oM i j k W);rw[l]at C;clear l h i j k;go_enter func35,ntmps35
 go_wp2_with fail
 refine(C.out _).mono ?_;rintro e m⟨rfl,d⟩;have aJ:=(d).size;(try simp at aJ);have kL:(w:Nat)<m:=oM;have kK:(w:Nat)+1<m:=oM;obtain⟨cD,cC⟩:=bcC (w+1+1) d
 go_wp2_with fail
 refine aaT (v:=RV f g false) (by simp[results,results35,go_sem, *]) rfl ⟨rfl,?_⟩;exact cB
def Su(md a b c g i:Nat)(h:¬5<=md)(j:U64 a)(k:U64 b)(l:U64 c)(m:dX 1 a b c (cU 1)=(false,0,0))(D:Hid (∀W,Bf prog 46 #[iU a,iU b,iI md] W (ah g i false W)))(w:AK):
 Bf prog 35 #[eV 1 md a b c] w (ah g i false w):=by
 have f3:decide ((4:Int)<md)=false:=Zv oM;have C:=Zp (λW=>dT 1 md a b c dC j k l W);rw[m]at C;clear m h j k l;go_enter func35,ntmps35
 go_wp2_with fail
 refine(C.out _).mono ?_;rintro e n⟨rfl,d⟩;have aJ:=(d).size;(try simp at aJ);have kL:(w:Nat)<n:=oM;have kK:(w:Nat)+1<n:=oM;obtain⟨cD,cC⟩:=bcC (w+1+1) d
 go_wp2_with fail
 refine(D.out _).mono ?_;rintro e o⟨rfl,f⟩;have aU:=(f).size;(try simp at aU);have kJ:(w:Nat)<o:=oM;have kI:(w:Nat)+1<o:=oM;obtain⟨en,ei⟩:=bcC (w+1+1) f
 go_wp2_with fail
 refine aaT (v:=RV g i false) (by simp[results,results35,go_sem, *]) rfl ⟨rfl,?_⟩;exact cB
def Sr(md a b c g i:Nat)(h:¬5<=md)(j:U64 a)(k:U64 b)(l:U64 c)(m:dX 3 a b c (cU 3)=(false,0,0))(D:Hid (∀W,Bf prog 47 #[iU a,iU b,iI md] W (ah g i false W)))(w:AK):
 Bf prog 35 #[eV 3 md a b c] w (ah g i false w):=by
 have f3:decide ((4:Int)<md)=false:=Zv oM;have C:=Zp (λW=>dT 3 md a b c dC j k l W);rw[m]at C;clear m h j k l;go_enter func35,ntmps35
 go_wp2_with fail
 refine(C.out _).mono ?_;rintro e n⟨rfl,d⟩;have aJ:=(d).size;(try simp at aJ);have kL:(w:Nat)<n:=oM;have kK:(w:Nat)+1<n:=oM;obtain⟨cD,cC⟩:=bcC (w+1+1) d
 go_wp2_with fail
 refine(D.out _).mono ?_;rintro e o⟨rfl,f⟩;have aU:=(f).size;(try simp at aU);have kJ:(w:Nat)<o:=oM;have kI:(w:Nat)+1<o:=oM;obtain⟨en,ei⟩:=bcC (w+1+1) f
 go_wp2_with fail
 refine aaT (v:=RV g i false) (by simp[results,results35,go_sem, *]) rfl ⟨rfl,?_⟩;exact cB
def Sq(md a b c g i:Nat)(h:¬5<=md)(j:U64 a)(k:U64 b)(l:U64 c)(m:dX 4 a b c (cU 4)=(false,0,0))(D:Hid (∀W,Bf prog 48 #[iU a,iU b,iI md] W (ah g i false W)))(w:AK):
 Bf prog 35 #[eV 4 md a b c] w (ah g i false w):=by
 have f3:decide ((4:Int)<md)=false:=Zv oM;have C:=Zp (λW=>dT 4 md a b c dC j k l W);rw[m]at C;clear m h j k l;go_enter func35,ntmps35
 go_wp2_with fail
 refine(C.out _).mono ?_;rintro e n⟨rfl,d⟩;have aJ:=(d).size;(try simp at aJ);have kL:(w:Nat)<n:=oM;have kK:(w:Nat)+1<n:=oM;obtain⟨cD,cC⟩:=bcC (w+1+1) d
 go_wp2_with fail
 refine(D.out _).mono ?_;rintro e o⟨rfl,f⟩;have aU:=(f).size;(try simp at aU);have kJ:(w:Nat)<o:=oM;have kI:(w:Nat)+1<o:=oM;obtain⟨en,ei⟩:=bcC (w+1+1) f
 go_wp2_with fail
 refine aaT (v:=RV g i false) (by simp[results,results35,go_sem, *]) rfl ⟨rfl,?_⟩;exact cB
def Sp(md a b c g i:Nat)(h:¬5<=md)(j:U64 a)(k:U64 b)(l:U64 c)(m:dX 5 a b c (cU 5)=(false,0,0))(D:Hid (∀W,Bf prog 49 #[iU a,iU b,iU c,iI md] W (ah g i false W)))(w:AK):
 Bf prog 35 #[eV 5 md a b c] w (ah g i false w):=by
 have f3:decide ((4:Int)<md)=false:=Zv oM;have C:=Zp (λW=>dT 5 md a b c dC j k l W);rw[m]at C;clear m h j k l;go_enter func35,ntmps35
 go_wp2_with fail
 refine(C.out _).mono ?_;rintro e n⟨rfl,d⟩;have aJ:=(d).size;(try simp at aJ);have kL:(w:Nat)<n:=oM;have kK:(w:Nat)+1<n:=oM;obtain⟨cD,cC⟩:=bcC (w+1+1) d
 go_wp2_with fail
 refine(D.out _).mono ?_;rintro e o⟨rfl,f⟩;have aU:=(f).size;(try simp at aU);have kJ:(w:Nat)<o:=oM;have kI:(w:Nat)+1<o:=oM;obtain⟨en,ei⟩:=bcC (w+1+1) f
 go_wp2_with fail
 refine aaT (v:=RV g i false) (by simp[results,results35,go_sem, *]) rfl ⟨rfl,?_⟩;exact cB
def Sj(md a b c g i:Nat)(h:¬5<=md)(j:U64 a)(k:U64 b)(l:U64 c)(m:dX 9 a b c (cU 9)=(false,0,0))(D:Hid (∀W,Bf prog 50 #[iU a,iU b,iI md] W (ah g i false W)))(w:AK):
 Bf prog 35 #[eV 9 md a b c] w (ah g i false w):=by
 have f3:decide ((4:Int)<md)=false:=Zv oM;have C:=Zp (λW=>dT 9 md a b c dC j k l W);rw[m]at C;clear m h j k l;go_enter func35,ntmps35
 go_wp2_with fail
 refine(C.out _).mono ?_;rintro e n⟨rfl,d⟩;have aJ:=(d).size;(try simp at aJ);have kL:(w:Nat)<n:=oM;have kK:(w:Nat)+1<n:=oM;obtain⟨cD,cC⟩:=bcC (w+1+1) d
 go_wp2_with fail
 refine(D.out _).mono ?_;rintro e o⟨rfl,f⟩;have aU:=(f).size;(try simp at aU);have kJ:(w:Nat)<o:=oM;have kI:(w:Nat)+1<o:=oM;obtain⟨en,ei⟩:=bcC (w+1+1) f
 go_wp2_with fail
 refine aaT (v:=RV g i false) (by simp[results,results35,go_sem, *]) rfl ⟨rfl,?_⟩;exact cB
def So(md a b c g i:Nat)(h:¬5<=md)(j:U64 a)(k:U64 b)(l:U64 c)(m:dX 6 a b c (cU 6)=(false,0,0))(D:Hid (∀W,Bf prog 51 #[iI 6,iU a,iI md] W (ah g i false W)))(w:AK):
 Bf prog 35 #[eV 6 md a b c] w (ah g i false w):=by
 have f3:decide ((4:Int)<md)=false:=Zv oM;have C:=Zp (λW=>dT 6 md a b c dC j k l W);rw[m]at C;clear m h j k l;go_enter func35,ntmps35
 go_wp2_with fail
 refine(C.out _).mono ?_;rintro e n⟨rfl,d⟩;have aJ:=(d).size;(try simp at aJ);have kL:(w:Nat)<n:=oM;have kK:(w:Nat)+1<n:=oM;obtain⟨cD,cC⟩:=bcC (w+1+1) d
 go_wp2_with fail
 refine(D.out _).mono ?_;rintro e o⟨rfl,f⟩;have aU:=(f).size;(try simp at aU);have kJ:(w:Nat)<o:=oM;have kI:(w:Nat)+1<o:=oM;obtain⟨en,ei⟩:=bcC (w+1+1) f
 go_wp2_with fail
 refine aaT (v:=RV g i false) (by simp[results,results35,go_sem, *]) rfl ⟨rfl,?_⟩;exact cB
def Sl(md a b c g i:Nat)(h:¬5<=md)(j:U64 a)(k:U64 b)(l:U64 c)(m:dX 7 a b c (cU 7)=(false,0,0))(D:Hid (∀W,Bf prog 51 #[iI 7,iU a,iI md] W (ah g i false W)))(w:AK):
 Bf prog 35 #[eV 7 md a b c] w (ah g i false w):=by
 have f3:decide ((4:Int)<md)=false:=Zv oM;have C:=Zp (λW=>dT 7 md a b c dC j k l W);rw[m]at C;clear m h j k l;go_enter func35,ntmps35
 go_wp2_with fail
 refine(C.out _).mono ?_;rintro e n⟨rfl,d⟩;have aJ:=(d).size;(try simp at aJ);have kL:(w:Nat)<n:=oM;have kK:(w:Nat)+1<n:=oM;obtain⟨cD,cC⟩:=bcC (w+1+1) d
 go_wp2_with fail
 refine(D.out _).mono ?_;rintro e o⟨rfl,f⟩;have aU:=(f).size;(try simp at aU);have kJ:(w:Nat)<o:=oM;have kI:(w:Nat)+1<o:=oM;obtain⟨en,ei⟩:=bcC (w+1+1) f
 go_wp2_with fail
 refine aaT (v:=RV g i false) (by simp[results,results35,go_sem, *]) rfl ⟨rfl,?_⟩;exact cB
def Sk(md a b c g i:Nat)(h:¬5<=md)(j:U64 a)(k:U64 b)(l:U64 c)(m:dX 8 a b c (cU 8)=(false,0,0))(D:Hid (∀W,Bf prog 51 #[iI 8,iU a,iI md] W (ah g i false W)))(w:AK):
 Bf prog 35 #[eV 8 md a b c] w (ah g i false w):=by
 have f3:decide ((4:Int)<md)=false:=Zv oM;have C:=Zp (λW=>dT 8 md a b c dC j k l W);rw[m]at C;clear m h j k l;go_enter func35,ntmps35
 go_wp2_with fail
 refine(C.out _).mono ?_;rintro e n⟨rfl,d⟩;have aJ:=(d).size;(try simp at aJ);have kL:(w:Nat)<n:=oM;have kK:(w:Nat)+1<n:=oM;obtain⟨cD,cC⟩:=bcC (w+1+1) d
 go_wp2_with fail
 refine(D.out _).mono ?_;rintro e o⟨rfl,f⟩;have aU:=(f).size;(try simp at aU);have kJ:(w:Nat)<o:=oM;have kI:(w:Nat)+1<o:=oM;obtain⟨en,ei⟩:=bcC (w+1+1) f
 go_wp2_with fail
 refine aaT (v:=RV g i false) (by simp[results,results35,go_sem, *]) rfl ⟨rfl,?_⟩;exact cB
def Ss(md a b c g i:Nat)(j:Nat)(q:Na .xor .u64 (b:Int) 9223372036854775808=j)(h:¬5<=md)(k:U64 a)(l:U64 b)(m:U64 c)(n:dX 2 a b c (cU 2)=(false,0,0))(D:Hid (∀W,Bf prog 46 #[iU a,iU j,iI md] W (ah g i false W)))(w:AK):
 Bf prog 35 #[eV 2 md a b c] w (ah g i false w):=by
 have f3:decide ((4:Int)<md)=false:=Zv oM;have C:=Zp (λW=>dT 2 md a b c dC k l m W);rw[n]at C;clear n h k l m;go_enter func35,ntmps35
 go_wp2_with fail
 refine(C.out _).mono ?_;rintro e o⟨rfl,d⟩;have aJ:=(d).size;(try simp at aJ);have kL:(w:Nat)<o:=oM;have kK:(w:Nat)+1<o:=oM;obtain⟨cD,cC⟩:=bcC (w+1+1) d
 go_wp2_with fail
 refine(D.out _).mono ?_;rintro e p⟨rfl,f⟩;have aU:=(f).size;(try simp at aU);have kJ:(w:Nat)<p:=oM;have kI:(w:Nat)+1<p:=oM;obtain⟨en,ei⟩:=bcC (w+1+1) f
 go_wp2_with fail
 refine aaT (v:=RV g i false) (by simp[results,results35,go_sem, *]) rfl ⟨rfl,?_⟩;exact cB
end
section
open Go.RowKit
abbrev QZ(op md:Int)(a b c:Nat):Aq:=.agg #[iI op,iI md,iU a,iU b,iU c]
def wy(op md:Int)(o m a b c:Nat)(d:op%256=o)(f:md%256=m)(w:AK):Bf prog 30 #[QZ op md a b c] w λe w'=>e=.returned (REC o m a b c)/\Np w w w':=by
 have g:IntKind.u8.wrap op=o:=by rw[acF];exact d
 have h:IntKind.u8.wrap md=m:=by rw[acF];exact f
 clear d f;go_enter func30,ntmps30
 go_wp2_with fail
 exact bR ⟨rfl,cB⟩
end
section
open Go.RowKit
def wP(op md:Int)(o m a b c:Nat)(d:op%256=o)(f:md%256=m)(w:AK):Bf prog 36 #[QZ op md a b c] w λe w'=>e=.returned (eV o m a b c)/\Np w w w':=by
 have g:IntKind.u8.wrap op=o:=by rw[acF];exact d
 have h:IntKind.u8.wrap md=m:=by rw[acF];exact f
 have i:Nq (o:Int)=o:=by unfold Nq;omega
 have j:Nq (m:Int)=m:=by unfold Nq;omega
 clear d f;go_enter func36,ntmps36
 go_wp2_with fail
 exact bR ⟨rfl,cB⟩
def zg(b f:Nat)(a:Bool)(c:f<256)(w:AK):Bf prog 37 #[nE b f a,RV b f a] w λe w'=>e=.returned (.bool true)/\Np w w w':=by
 have d:Nq (f:Int)=f:=by unfold Nq;omega
 clear c;go_enter func37,ntmps37
 go_wp2_with fail
 go_ret
 refine⟨rfl,?_⟩;exact cB
def gY(o m a b c:Nat):Prop:=∃f e d,(∀W,aT W->Bf prog 29 #[REC o m a b c] W (ai f e d W))/\(∀W,Bf prog 35 #[eV o m a b c] W (ah f e d W))/\e<256
def Kp(op md:Int)(o m a b c:Nat)(u:op%256=o)(v:md%256=m)(z:gY o m a b c)(w:AK)(t:aT w):Bf prog 20 #[QZ op md a b c] w λe w'=>e=.returned (.bool true)/\Np w w w':=by
 obtain⟨A,B,x,D,y,i⟩:=z;replace D:=Zp D;replace y:=Zp y;have G:=Zp (λW=>wy op md o m a b c u v W);have AK:=Zp (λW=>wP op md o m a b c u v W);have S:=Zp (λW=>zg A B x i W);replace t:=Zp t;clear u v i;go_enter func20,ntmps20
 go_wp2_with fail
 refine(G.out _).mono ?_;rintro e d⟨rfl,j⟩;have aJ:=(j).size;(try simp at aJ);have kL:(w:Nat)<d:=oM;obtain⟨cD,cC⟩:=bcC (w+1) j
 go_wp2_with fail
 refine(D.out _ (t.out.below (Zo _) ?_)).mono ?_
 .exact cB
 rintro e f⟨rfl,k⟩;have aU:=(k).size;(try simp at aU);have kJ:(w:Nat)<f:=oM;obtain⟨en,ei⟩:=bcB k;have X6:(d:Nat)<f:=oM
 go_wp2_with fail
 refine(D.out _ (t.out.below (Zo _) ?_)).mono ?_
 .exact cB
 rintro e g⟨rfl,l⟩;have tG:=(l).size;(try simp at tG);have aff:(w:Nat)<g:=oM;obtain⟨P2,P0⟩:=bcB l;have afx:(f:Nat)<g:=oM;have Vv:(d:Nat)<g:=oM
 go_wp2_with fail
 refine(AK.out _).mono ?_;rintro e n⟨rfl,p⟩;have tF:=(p).size;(try simp at tF);have afe:(w:Nat)<n:=oM;obtain⟨P1,PZ⟩:=bcB p;have afw:(g:Nat)<n:=oM;have afu:(d:Nat)<n:=oM;have Vu:(f:Nat)<n:=oM
 go_wp2_with fail
 refine(y.out _).mono ?_;rintro e q⟨rfl,r⟩;have Ak:=(r).size;(try simp at Ak);have MU:(w:Nat)<q:=oM;obtain⟨WI,WG⟩:=bcB r;have afs:(d:Nat)<q:=oM;have afr:(f:Nat)<q:=oM;have Vt:(g:Nat)<q:=oM
 go_wp2_with fail
 refine(S.out _).mono ?_;rintro e h⟨rfl,s⟩;have Ue:=(s).size;(try simp at Ue);have afl:(w:Nat)<h:=oM;obtain⟨WH,WE⟩:=bcB s;have afv:(q:Nat)<h:=oM;have afq:(d:Nat)<h:=oM;have afp:(f:Nat)<h:=oM;have afo:(g:Nat)<h:=oM;have Vs:(n:Nat)<h:=oM
 go_wp2_with fail
 refine(S.out _).mono ?_;rintro e E⟨rfl,C⟩
 go_wp2_with fail
 go_ret
 refine⟨rfl,?_⟩;exact cB
end
section
open Go.RowKit
variable{size:Nat}{w:AK}
structure LR where
 op:Int
 md:Int
 a:Nat
 b:Nat
 c:Nat
def LR.o(r:LR):Nat:=(r.op%256).toNat
def LR.m(r:LR):Nat:=(r.md%256).toNat
def LR.o_eq(r:LR):r.op%256=(r.o:Int):=by unfold LR.o;omega
def LR.m_eq(r:LR):r.md%256=(r.m:Int):=by unfold LR.m;omega
def LR.o_lt(r:LR):r.o<256:=by unfold LR.o;omega
def lrC(r:LR):List Aq:=[iI r.op,iI r.md,iU r.a,iU r.b,iU r.c]
def rrC(r:LR):List Aq:=[iI r.o,iI r.m,iU r.a,iU r.b,iU r.c]
def bE(w:AK)(A:Option Es)(size:Nat)(b:List (List Aq)):Prop:=
 ∀k cs,b[k]?=some cs->∃a,A=some a/\a.spot=none/\a.block<w/\∀c u,cs[c]?=some u->w (aD a.block (a.off+k*size+c))=some u
def bE.below{v:AK}{A:Option Es}{b:List (List Aq)}(h:bE w A size b)(d:Np w w v):bE v A size b:=λk cs f=>by
 obtain⟨a,g,i,e,j⟩:=h k cs f;exact⟨a,g,i,ZB e d.size,λc u l=>(d.cell (p:=aD a.block (a.off+k*size+c)) e).trans (j c u l)⟩
def bY{w':AK}{B e n:Nat}{v:Aq}{b:List Aq}(h:w.ownsRow B e size v n b)(d:Np w w w'):w'.ownsRow B e size v n b:=by
 refine⟨h.1,?_⟩;rcases h.2 with h|⟨g,cap,a,rfl,f,c,i⟩
 .exact .inl h
 exact .inr ⟨g,cap,a,rfl,f,(d.block g (Zq.1 c).1).trans c,i⟩
def hZ{t:E1}(a:List Aq):∀j u,a[j]?=some u->(w.alloc (.cells a.toArray t)) ((aD w 0:Es).add j)=some u:=by
 intro j u b;have h:=acx w (.cells a.toArray t);have e:(aD w 0:Es).add j=aD w j:=by simp[Addr.add];intro h;exact h.symm
 rw[e];unfold World.cell?;rw[h];simp[b]
def fU{α:Type}(f:α->List Aq){l:List α}{k:Nat}{r:α}(b:l[k]?=r):(l.take (k+1)).flatMap f=(l.take k).flatMap f++f r:=by
 obtain⟨a,rfl⟩:=ZL.1 b;rw[aas a,acZ];simp
def MN:(prog.info? 68).map (λi=>(i.zero,i.size,i.bytes))=some (some (.agg #[iI 0,iI 0,iU 0,iU 0,iU 0]),5,40):=by kernel_rfl
def JA(A:Option Es)(cap:Nat)(l:List LR)(R:(l:Nat)<=1048576)(w:AK)(E:bE w A 5 (l.map lrC)):
 Bf prog 23 #[.slice A l cap] w λe w'=>∃v,e=.returned v/\w'.ownsRow w 68 5 v l (l.flatMap rrC)/\Np w w w':=by
 replace E:=Zp E;obtain⟨L,M,F,G,H⟩:=abq MN;go_enter func23,ntmps23
 go_wp2
 go_loopw[3,4] (λv i wr=>∃k:Nat,k<=l/\i=iI k/\wr.ownsRow w 68 5 v k ((l.take k).flatMap rrC)/\Np w w wr) (λ_ i _=>l-(intOf i).toNat)
 case atStart=>exact⟨0,Z7 _,rfl,⟨rfl,.inl ⟨rfl,rfl⟩⟩,Zx _ _⟩
 obtain⟨k,S,rfl,d,y⟩:=hrel;by_cases z:k<l
 .obtain⟨r,B⟩:∃r,l[k]?=some r:=⟨_,ZN z⟩;obtain⟨⟨n,q,N⟩,rfl,C,x,I⟩:=E.out k (lrC r) (by simp[B]);simp only at C x I;subst C;have f:∀c u,(lrC r)[c]?=some u->wr (aD n (q+k*5+c))=some u:=λc u D=>(y.cell (p:=aD n (q+k*5+c)) x).trans (I c u D);have c0:cF wr n (q+k*5) (iI r.op):=f 0 _ rfl;have c1:cF wr n (q+k*5+1) (iI r.md):=f 1 _ rfl;have c2:cF wr n (q+k*5+2) (iU r.a):=f 2 _ rfl;have c3:cF wr n (q+k*5+3) (iU r.b):=f 3 _ rfl;have c4:cF wr n (q+k*5+4) (iU r.c):=f 4 _ rfl;have O:(aD n q:Es).add (k*5)=aD n (q+k*5):=by simp[Addr.add]
  have P:(k:Int)<l:=oM;clear f I
  go_wp2_with(first
   |(go_at_call 36;refine gB (wP r.op r.md r.o r.m r.a r.b r.c r.o_eq r.m_eq _) λJ s=>?_)
   |(at_builtin;refine aad _ rfl (.tmp 11) (.tmp 17) 46 rfl w 68 L _ 5 40 underlying46 M F G H rfl dC _ _ _ rfl ((bY d s).alloc _) (aD J 0) 1 1 (rrC r) rfl rfl ?c1 ?c2 ?c3 ?c4 ?c5 ?_))
  case c1=>exact hZ (rrC r)
  case c2=>intro u D;simp[rrC]at D;rcases D with rfl|rfl|rfl|rfl|rfl<;>rfl
  case c3=>simp only[maxLen];omega
  case c4=>omega
  case c5=>have:=y.size;have:=s.size;simp;omega
  intro v' K g h _;have t:Np w w J:=y.trans (s.mono y.size);have hrel:K.ownsRow w 68 5 v' (k+1) ((l.take (k+1)).flatMap rrC)/\Np w w K:=
   ⟨by rw[fU rrC B];exact g,(t.alloc t.size _).grown h (by have:=t.size;simp;omega) λj Q=>(d.lt j Q).1⟩
  clear g h d y s t c0 c1 c2 c3 c4
  go_wp2
  go_roundw
  case rel=>exact⟨k+1,z,by go_num,hrel⟩
  simp[intOf];omega
 obtain rfl:k=l:=oM;rw[aaL]at d
 go_wp2
 go_ret
 exact⟨_,rfl,d,y⟩
end
section
open Go.RowKit
variable{B:Nat}{f:LR->List Aq}{ls:List (List LR)}{u:Aq}{v w:AK}
def gvC(r:LR):List Aq:=[qB r.o,qB r.m,iU r.a,iU r.b,iU r.c]
def bh(w:AK)(A:Option Es)(size:Nat)(ls:List (List (List Aq))):Prop:=
 ∀i b,ls[i]?=some b->∃a A' c,A=some a/\a.spot=none/\a.block<w/\w (aD a.block (a.off+i))=some (.slice A' b.length c)/\bE w A' size b
def bh.below{A:Option Es}{size:Nat}{ls:List (List (List Aq))}(h:bh w A size ls)(d:Np w w v):bh v A size ls:=λi b g=>by
 obtain⟨a,A',c,j,k,e,l,m⟩:=h i b g;exact⟨a,A',c,j,k,ZB e d.size,(d.cell (p:=aD a.block (a.off+i)) e).trans l,m.below d⟩
section
variable{w v:AK}{B e size n:Nat}{x:Aq}{xs:List Aq}
def ba(h:w.ownsRow B e size x n xs):∃A c,x=.slice A n c:=by
 rcases h.2 with⟨rfl,rfl⟩|⟨g,cap,a,rfl,_⟩<;>exact⟨_,_,rfl⟩
def iu{B':Nat}(h:w.ownsRow B e size x n xs)(b:B'<=B):w.ownsRow B' e size x n xs:=by
 refine⟨h.1,h.2.imp id ?_⟩;rintro⟨g,cap,a,c,d,i⟩;exact⟨g,cap,a,c,Zz b d,i⟩
def ak(h:w.ownsRow B e size x n xs){g:Nat}(a:x.ownBlock=g):B<=g/\g<w:=by
 rcases h.2 with⟨rfl,_⟩|⟨g',cap,b,rfl,c,d,_⟩
 .cases a
 simp only[Value.ownBlock,Zt]at a;subst a;exact⟨c,(Zq.1 d).1⟩
def bn(h:w.ownsRow B e size x n xs)(b:∀g,x.ownBlock=some g->v.heap[g]?=w.heap[g]?):v.ownsRow B e size x n xs:=by
 refine⟨h.1,?_⟩;rcases h.2 with h|⟨g,cap,a,rfl,c,d,i⟩
 .exact .inl h
 exact .inr ⟨g,cap,a,rfl,c,(b g rfl).trans d,i⟩
end
def cH(w:AK)(B:Nat)(u:Aq)(f:LR->List Aq)(ls:List (List LR)):Prop:=
 ∃a,w.ownsRow B 71 1 u ls a/\∀(i:Nat)(rs:List LR),ls[i]?=rs->∃s,a[i]?=some s/\w.ownsRow B 59 5 s rs (rs.flatMap f)/\∀g,s.ownBlock=some g->u.ownBlock≠some g
def cH.below(h:cH w B u f ls)(a:Np w w v):cH v B u f ls:=by
 obtain⟨b,c,d⟩:=h;refine⟨b,bY c a,λi rs e=>?_⟩;obtain⟨s,g,j,k⟩:=d i rs e;exact⟨s,g,bY j a,k⟩
def cH.more{h s:Aq}{k:Nat}{rs:List LR}{j:List Aq}{t:E1}(z:ls[k]?=rs)
 (D:w.ownsRow B 71 1 u k j)(E:∀(i:Nat)(rs:List LR),(ls.take k)[i]?=rs->∃s,j[i]?=some s/\w.ownsRow B 59 5 s rs (rs.flatMap f)/\∀g,s.ownBlock=some g->u.ownBlock≠some g)
 (F:w.ownsRow B 59 5 s rs (rs.flatMap f))(o:∀g,s.ownBlock=some g->u.ownBlock≠some g)
 (l:v.ownsRow B 71 1 h (k+1) (j++[s]))(G:(w.alloc (.cells #[s] t)).grownBy v u.ownBlock)(a:h.ownBlock=u.ownBlock\/h.ownBlock=w.alloc (.cells #[s] t)):cH v B h f (ls.take (k+1)):=by
 have H:k<ls:=(ZL.1 z).1;have m:j=k:=by have:=D.1;omega
 have c:∀{x:Aq}{n:Nat}{p:List Aq},w.ownsRow B 59 5 x n p->(∀g,x.ownBlock=some g->u.ownBlock≠some g)->v.ownsRow B 59 5 x n p/\∀g,x.ownBlock=some g->h.ownBlock≠some g:=by
  intro x n p q A;refine⟨bn q λg b=>?_,λg b e=>?_⟩
  .have C:=(ak q b).2;exact(G.block g sO λe=>A g b e.symm).trans (aap _ _ _ C)
  have C:=(ak q b).2;rcases a with a|a
  .exact A g b (a.symm.trans e)
  rw[a]at e;simp at e;omega
 have I:(ls.take (k+1))=k+1:=by rw[aaY];omega
 refine⟨j++[s],by rw[I];exact l,λi r d=>?_⟩;rw[aau]at d;split at d
 .by_cases y:i<k
  .obtain⟨s',J,K,L⟩:=E i r (by rw[aau,ZC y];exact d);exact⟨s',by rw[abO oM];exact J,c K L⟩
  obtain rfl:i=k:=oM;rw[z]at d;obtain rfl:=ZO d;exact⟨s,by rw[abu oM];simp[m],c F o⟩
 cases d
def xQ:(prog.info? 59).map (λi=>(i.zero,i.size,i.bytes))=some (some (.agg #[qB 0,qB 0,iU 0,iU 0,iU 0]),5,32):=by kernel_rfl
def El:(prog.info? 71).map (λi=>(i.zero,i.size,i.bytes))=some (some (.slice none 0 0),1,24):=by kernel_rfl
def Gt(A:Option Es)(cap:Nat)(ls:List (List LR))(hl:ls.length<=1048576)(M:∀(i:Nat)(rs:List LR),ls[i]?=some rs->rs.length<=1048576)(w:AK)(hr:bh w A 5 (ls.map (·.map lrC))):
 Bf prog 21 #[.slice A ls.length cap] w λe w'=>∃v,e=.returned v/\cH w' w v gvC ls/\Np w w w':=by
 replace hr:=Zp hr;replace M:=Zp M;obtain⟨i0,hi,hz0,hz1,hz2⟩:=abq xQ;obtain⟨i1,hi',hy0,hy1,hy2⟩:=abq El;go_enter func21,ntmps21
 go_wp2
 go_loopw[3,4,5,6] (λv i _ _ wr=>∃k:Nat,k<=ls.length/\i=.int .i64 k/\Hid (cH wr w v gvC (ls.take k))/\Np w w wr) (λ_ i _ _ _=>ls.length-(intOf i).toNat)
 case atStart=>exact⟨0,Z7 _,rfl,Zp ⟨[],⟨rfl,.inl ⟨rfl,rfl⟩⟩,λi rs h=>by simp at h⟩,Zx _ _⟩
 obtain⟨k,hk,rfl,z,J⟩:=hrel;by_cases T:k<ls.length
 .obtain⟨rs,E⟩:∃rs,ls[k]?=some rs:=⟨_,ZN T⟩;obtain⟨⟨R,S,asp⟩,A',K,rfl,U,F,hc,x⟩:=hr.out k (rs.map lrC) (by simp[E]);simp only at U F hc;subst U;have ead:(aD R S:Es).add k=aD R (S+k):=by simp[Addr.add]
  have hkp:(k:Int)<ls.length:=oM;rw[aao]at hc;have V:wr (aD R (S+k))=some (.slice A' rs.length K):=(J.cell (p:=aD R (S+k)) F).trans hc;have hrsl:=M.out k rs E;replace x:=Zp x;replace E:=Zp E;clear hc
  go_wp2_with fail
  rename AK=>wO
  go_loopw[5,6] (λv i wi=>∃j:Nat,j<=rs.length/\i=.int .i64 j/\wi.ownsRow wO 59 5 v j ((rs.take j).flatMap gvC)/\Np wO wO wi) (λ_ i _=>rs.length-(intOf i).toNat)
  case atStart=>exact⟨0,Z7 _,rfl,⟨rfl,.inl ⟨rfl,rfl⟩⟩,Zx _ _⟩
  obtain⟨j,hj,rfl,n,d⟩:=hrel;have N:=J.size;have hcw':wr (aD R (S+k))=some (.slice A' rs.length K):=(d.cell (p:=aD R (S+k)) (ZB F N)).trans V;clear V;by_cases W:j<rs.length
  .obtain⟨r,X⟩:∃r,rs[j]?=some r:=⟨_,ZN W⟩;obtain⟨⟨G,H,bsp⟩,rfl,L,y,O⟩:=x.out j (lrC r) (by simp[X]);simp only at L y O;subst L;have C:∀c u,(lrC r)[c]?=some u->wr (aD G (H+j*5+c))=some u:=λc u P=>(d.cell (p:=aD G (H+j*5+c)) (ZB y N)).trans ((J.cell (p:=aD G (H+j*5+c)) y).trans (O c u P));have c0:wr (aD G (H+j*5))=some (.int .i64 r.op):=C 0 _ rfl;have c1:wr (aD G (H+j*5+1))=some (.int .i64 r.md):=C 1 _ rfl;have c2:wr (aD G (H+j*5+2))=some (.int .u64 r.a):=C 2 _ rfl;have c3:wr (aD G (H+j*5+3))=some (.int .u64 r.b):=C 3 _ rfl;have c4:wr (aD G (H+j*5+4))=some (.int .u64 r.c):=C 4 _ rfl;(have ead':(aD G H:Es).add (j*5)=aD G (H+j*5):=by simp[Addr.add]);have hjp:(j:Int)<rs.length:=oM;clear C O
   go_wp2_with(first
    |(go_at_call 30;refine gB (wy r.op r.md r.o r.m r.a r.b r.c r.o_eq r.m_eq _) λw1 I=>?_)
    |(at_builtin;refine aad _ rfl (.tmp 22) (.tmp 31) 71 rfl wO 59 i0 _ 5 32 underlying71 hi hz0 hz1 hz2 rfl dC _ _ _ rfl ((bY n I).alloc _) (aD w1 0) 1 1 (gvC r) rfl rfl ?c1 ?c2 ?c3 ?c4 ?c5 ?_))
   case c1=>exact hZ (gvC r)
   case c2=>intro u P;simp[gvC]at P;rcases P with rfl|rfl|rfl|rfl|rfl<;>rfl
   case c3=>simp only[maxLen];omega
   case c4=>omega
   case c5=>have:=d.size;have:=I.size;simp;omega
   intro v' Y q l _;have t:Np wO wO w1:=d.trans (I.mono d.size);have hrel:Y.ownsRow wO 59 5 v' (j+1) ((rs.take (j+1)).flatMap gvC)/\Np wO wO Y:=
    ⟨by rw[fU gvC X];exact q,(t.alloc t.size _).grown l (by have:=t.size;simp;omega) λj hj=>(n.lt j hj).1⟩
   clear q l n d I t c0 c1 c2 c3 c4
   go_wp2
   go_roundw
   case rel=>exact⟨j+1,W,by go_num,hrel⟩
   simp[intOf];omega
  obtain rfl:j=rs.length:=oM;rw[aaL]at n;obtain⟨ss,D,Z⟩:=z.out;have aa:(ls.take k).length=k:=by rw[aaY];omega
  rw[aa]at D;obtain⟨sA,sc,rfl⟩:=ba n
  go_wp2_with(at_builtin;refine wpList_append_own_at _ rfl (.tmp 33) (.tmp 35) 34 rfl w 71 i1 _ 1 24 underlying34 hi' hy0 hy1 hy2 rfl dC _ _ _ rfl ((bY D d).alloc _) (aD wr 0) 1 1 _ rfl rfl (cell_one_new _ _ _) ?d2 ?d3 ?d4 ?d5 ?_)
  case d2=>intro u P;simp at P;subst P;rfl
  case d3=>simp only[maxLen];omega
  case d4=>omega
  case d5=>have:=d.size;have:=J.size;simp;omega
  intro v' Y q l _ ac;have hBs2:=d.size;have t:Np w w wr:=J.trans (d.mono N);have ag:∀g,(Value.slice sA rs.length sc).ownBlock=some g->u3.ownBlock≠some g:=λg hg e=>by
   have h1:=ak n hg;have h2:=ak D e;omega
  have Q:Hid (cH Y w v' gvC (ls.take (k+1))):=Zp (cH.more E.out (bY D d) (λi rs' hi=>by
   obtain⟨s,h3,h4,h5⟩:=Z i rs' hi;exact⟨s,h3,bY h4 d,h5⟩) (iu n J.size) ag q l (by simpa using ac))
  have hB2:Np w w Y:=(t.alloc t.size _).grown l (by have:=t.size;simp;omega) λj hj=>(ak D hj).1;clear q l ac n D Z z ag t d J
  go_wp2
  go_roundw
  case rel=>exact⟨k+1,T,by go_num,Q,hB2⟩
  simp[intOf];omega
 obtain rfl:k=ls.length:=oM;rw[aaL]at z
 go_wp2
 go_ret
 exact⟨_,rfl,z.out,J⟩
end
section
open Go.RowKit
variable{B size:Nat}{u:Aq}{w:AK}{α:Type}
def kQ{f:α->List Aq}(a:∀r,(f r)=size):∀{rs:List α}{k:Nat}{r:α},rs[k]?=some r->∀c,c<size->(rs.flatMap f)[k*size+c]?=(f r)[c]?
 |[],k,r,h,c,_=>by simp at h
 |x::rs,0,r,h,c,b=>by
  simp only[ZE,Zt]at h;subst h;rw[ab4,abM,Z8,abO (by rw[a];exact b)]
 |x::rs,k+1,r,h,c,b=>by
  rw[ab4,abu (by rw[a,adj];omega),a,show(k+1)*size+c-size=k*size+c by rw[adj];omega];exact kQ a (by simpa using h) c b
def dn{f:α->List Aq}(j:∀r,(f r)=size){e:Nat}{s:Aq}{rs:List α}(h:w.ownsRow B e size s rs (rs.flatMap f)):
 ∃A c,s=.slice A rs c/\bE w A size (rs.map f):=by
 rcases h.2 with⟨rfl,l⟩|⟨g,cap,p,rfl,v,m,x,y,z,q⟩
 .refine⟨none,0,by rw[l],λk cs a=>?_⟩;have:rs=[]:=List.eq_nil_of_length_eq_zero l;subst this;simp at a
 refine⟨some (aD g 0),cap,rfl,λk cs a=>⟨aD g 0,rfl,rfl,(Zq.1 m).1,λc u n=>?_⟩⟩;rw[aaf]at a;obtain⟨r,o,rfl⟩:=ZX.1 a;have b:k<(rs:Nat):=(ZL.1 o).1;have t:c<size:=by have:=(ZL.1 n).1;rw[j]at this;exact this
 have d:=kQ j o c t;rw[<-q,aau]at d;have i:k*size+c<rs*size:=by
  have:(k+1)*size<=rs*size:=Z9 size b;rw[adj]at this;omega
 rw[ZC i]at d;simp only[World.cell?,m,Z8];rw[<-aar,d,n];rfl
def eG(r:LR):((gvC r):Nat)=5:=rfl
def LN(r:LR):((rrC r):Nat)=5:=rfl
def gq{f:LR->List Aq}(t:∀r,((f r):Nat)=5){e:List (List LR)}(h:cH w B u f e):∃A cap,u=.slice A e cap/\bh w A 5 (e.map (·.map f)):=by
 obtain⟨d,g,v⟩:=h;have m:(d:Nat)=e:=by have:=g.1;omega
 have n:d=d.flatMap λs=>[s]:=sM;rw[<-m,n]at g;have j:w.ownsRow B 71 1 u d (d.flatMap λs=>[s]):=by rw[<-n]at g⊢;exact g
 obtain⟨A,c,rfl,b⟩:=dn (f:=λs:Aq=>[s]) (λ_=>rfl) j;refine⟨A,c,by rw[m],λi o p=>?_⟩;rw[aaf]at p;obtain⟨rs,k,rfl⟩:=ZX.1 p;obtain⟨s,x,y,_⟩:=v i rs k;obtain⟨A',q,rfl,l⟩:=dn t y;obtain⟨a,z,C,D,E⟩:=b i [.slice A' rs q] (by rw[aaf,x];rfl);exact⟨a,A',q,z,C,D,by have:=E 0 _ rfl;simpa using this,l⟩
def Aw{f:α->List Aq}(a:∀r,((f r):Nat)=size)(b:0<size){rs:List α}{j:Nat}(h:(rs.flatMap f)[j]?=some u):∃r,rs[j/size]?=some r/\(f r)[j%size]?=some u:=by
 have i:((rs.flatMap f):Nat)=(rs:Nat)*size:=by
  clear h;induction rs with
  |nil=>simp
  |cons x rs d=>rw[ab4,abU,d,a,Z6,adj];omega
 have e:j<(rs:Nat)*size:=by have:=(ZL.1 h).1;omega
 have g:j/size<(rs:Nat):=by rw[Z4 b];exact e
 obtain⟨r,c⟩:∃r,rs[j/size]?=some r:=⟨_,ZN g⟩;refine⟨r,c,?_⟩;rw[<-kQ a c (j%size) (aa1 _ b),Z1,abN];exact h
def sY{f:α->List Aq}(c:∀r,(f r)=size)(d:0<size){b o:Nat}{rs:List α}(h:bE w (aD b o) size (rs.map f)):∀j u,(rs.flatMap f)[j]?=some u->w ((aD b o:Es).add j)=some u:=by
 intro j u g;obtain⟨r,i,k⟩:=Aw c d g;obtain⟨a,l,_,_,m⟩:=h (j/size) (f r) (by rw[aaf,i];rfl);cases l;have:=m (j%size) u k;simp only at this;have e:(aD b o:Es).add j=aD b (o+j/size*size+j%size):=by
  have n:o+j/size*size+j%size=o+j:=by rw[abY,Z1,abN]
  rw[n];simp[Addr.add]
 rw[e];exact this
def EO(c:Nat)(w:AK):(Builtin.append_ #[71,71] 71 #[.slice none 0 0,.slice none 0 c]).run prog w=.ok (.slice none 0 0) w:=by
 kernel_rfl
def Dh(A:Option Es)(cap:Nat)(z:List (List LR))(hl:(z:Nat)<=1048576)(P:∀(i:Nat)(rs:List LR),z[i]?=some rs->(rs:Nat)<=1048576)(w:AK)(hr:bh w A 5 (z.map (·.map gvC))):
 Bf prog 38 #[.slice A (z:Nat) cap] w λe w'=>∃v,e=.returned v/\cH w' (w:Nat) v gvC z/\Np (w:Nat) w w':=by
 replace hr:=Zp hr;replace P:=Zp P;obtain⟨i0,hi,hz0,hz1,hz2⟩:=abq xQ;obtain⟨i1,T,U,V,W⟩:=abq El;go_enter func38,ntmps38
 go_wp2
 go_loopw[3,5,8] (λv _ i wr=>∃k:Nat,k<=(z:Nat)/\i=iI k/\Hid (cH wr (w:Nat) v gvC (z.take k))/\Np (w:Nat) w wr) (λ_ _ i _=>(z:Nat)-(intOf i).toNat)
 case atStart=>exact⟨0,Z7 _,rfl,Zp ⟨[],⟨rfl,.inl ⟨rfl,rfl⟩⟩,λi rs h=>by simp at h⟩,Zx _ _⟩
 obtain⟨k,hk,rfl,l,R⟩:=hrel;by_cases Q:k<(z:Nat)
 .obtain⟨rs,C⟩:∃rs,z[k]?=some rs:=⟨_,ZN Q⟩;obtain⟨⟨ab,ao,asp⟩,A',E,rfl,X,L,hc,F⟩:=hr.out k (rs.map gvC) (by simp[C]);simp only at X L hc;subst X;have ead:(aD ab ao:Es).add k=aD ab (ao+k):=by simp[Addr.add]
  have hkp:(k:Int)<(z:Nat):=oM;rw[aao]at hc;have hcw:cF wr ab (ao+k) (.slice A' (rs:Nat) E):=(R.cell (p:=aD ab (ao+k)) L).trans hc;have Y:=P.out k rs C;have D:=F.below R;replace D:=Zp D;replace C:=Zp C;clear hc F;obtain⟨ss,m,G⟩:=l.out;have Z:((z.take k):Nat)=k:=by rw[aaY];omega
  rw[Z]at m;replace G:=Zp G;have hBs:=R.size;have q:∀(S:Aq)(H:AK),H.ownsRow (wr:Nat) 59 5 S (rs:Nat) (rs.flatMap gvC)->Np (wr:Nat) wr H->∀(v':Aq)(J:AK),J.ownsRow (w:Nat) 71 1 v' (k+1) (ss++[S])->(aC H #[S] 71).grownBy J u3.ownBlock->(v'.ownBlock=u3.ownBlock\/v'.ownBlock=some ((H:Nat)+1))->
   Hid (cH J (w:Nat) v' gvC (z.take (k+1)))/\Np (w:Nat) w J:=by
   intro S H M K v' J c b t;have hBs2:=K.size;have n:Np (w:Nat) w H:=R.trans (K.mono hBs);have hne:∀g,S.ownBlock=some g->u3.ownBlock≠some g:=λg hg e=>by
    have h1:=ak M hg;have h2:=ak m e;omega
   refine⟨Zp (cH.more C.out (bY m K) (λi rs' hi=>by
    obtain⟨s,h3,h4,h5⟩:=G.out i rs' hi;exact⟨s,h3,bY h4 K,h5⟩) (iu M R.size) hne c b (by simpa using t)),(n.alloc n.size _).grown b (by have:=n.size;simp;omega) λj hj=>(ak m hj).1⟩
  replace q:=Zp q;cases A' with
  |none=>
   have h0:rs=[]:=by
    cases rs with
    |nil=>rfl
    |cons r rs=>obtain⟨a,ha,_⟩:=D.out 0 (gvC r) rfl;cases ha
   subst h0;have happ:=EO E
   go_wp2_with(at_builtin;refine wpList_append_own_at _ rfl (.tmp 12) (.tmp 15) 34 rfl (w:Nat) 71 i1 _ 1 24 underlying34 T U V W rfl dC _ _ _ rfl (m.alloc _) (aD (wr:Nat) 0) 1 1 _ rfl rfl (cell_one_new _ _ _) ?d2 ?d3 ?d4 ?d5 ?_)
   case d2=>intro u I;simp at I;subst I;rfl
   case d3=>simp only[maxLen];omega
   case d4=>omega
   case d5=>simp;omega
   intro v' J c b _ t;have hrel:=q.out _ wr ⟨rfl,.inl ⟨rfl,rfl⟩⟩ (Zx _ _) v' J c b t;clear c b t q m G l
   go_wp2
   go_roundw
   case rel=>exact⟨k+1,Q,by go_num,hrel⟩
   simp[intOf];omega
  |some a=>
   obtain⟨bb,bo,bsp⟩:=a;have d:∀j u,(rs.flatMap gvC)[j]?=some u->wr ((⟨bb,bo,bsp⟩:Es).add j)=some u:=by
    cases rs with
    |nil=>intro j u hj;simp at hj
    |cons r rs=>
     obtain⟨a,ha,hs,_⟩:=D.out 0 (gvC r) rfl;cases ha;simp only at hs;subst hs;exact sY eG oM D.out
   have o:∀u∈rs.flatMap gvC,u.oneCell'=true:=by
    intro u I;obtain⟨r,_,I⟩:=acW.1 I;simp[gvC]at I;rcases I with rfl|rfl|rfl|rfl|rfl<;>rfl
   have f:((rs.flatMap gvC):Nat)=(rs:Nat)*5:=by
    clear d o Y hcw C D q;induction rs with
    |nil=>rfl
    |cons x rs ih=>rw[ab4,abU,ih,eG,Z6];omega
   replace d:=Zp d;replace o:=Zp o;replace f:=Zp f
   go_wp2_with(at_builtin;refine aad _ rfl (.const (.slice none 0 0)) (.tmp 13) 71 rfl (wr:Nat) 59 i0 _ 5 32 underlying71 hi hz0 hz1 hz2 rfl dC _ 0 [] rfl ⟨rfl,.inl ⟨rfl,rfl⟩⟩ ⟨bb,bo,bsp⟩ (rs:Nat) E (rs.flatMap gvC) rfl f.out d.out o.out ?c3 ?c4 (Zo _) ?_)
   case c3=>simp only[maxLen];omega
   case c4=>omega
   intro S H y N _;(have n:Np (wr:Nat) wr H:=(Zx _ _).grown N (Zo _) λj hj=>by simp[Value.ownBlock]at hj);obtain⟨sA,sc,rfl⟩:=ba y;have O:=bY m n;have hBs1:=n.size;clear d o f N
   go_wp2_with(at_builtin;refine wpList_append_own_at _ rfl (.tmp 12) (.tmp 15) 34 rfl (w:Nat) 71 i1 _ 1 24 underlying34 T U V W rfl dC _ _ _ rfl (O.alloc _) (aD (H:Nat) 0) 1 1 _ rfl rfl (cell_one_new _ _ _) ?d2 ?d3 ?d4 ?d5 ?_)
   case d2=>intro u I;simp at I;subst I;rfl
   case d3=>simp only[maxLen];omega
   case d4=>omega
   case d5=>simp;omega
   intro v' J c b _ t;have hrel:=q.out _ H y n v' J c b t;clear c b t q m G l y n O
   go_wp2
   go_roundw
   case rel=>exact⟨k+1,Q,by go_num,hrel⟩
   simp[intOf];omega
 obtain rfl:k=(z:Nat):=oM;rw[aaL]at l
 go_wp2
 go_ret
 exact⟨_,rfl,l.out,R⟩
end
section
open Go.RowKit Go.ChangeShapes Go.WideShapes Go.Deep
variable{p:Es}{v:Aq}{w:AK}
def qC(h:w p=v):p.spot=none:=by
 unfold World.cell? at h;split at h
 .split at h
  .cases h
  rename_i a;cases b:p.spot with
  |none=>rfl
  |some _=>rw[b]at a;simp at a
 cases h
def bX(h:w p=v):p.block<w:=by
 unfold World.cell? at h;split at h
 .rename_i a;exact(Zq.1 a).1
 cases h
def NA:prog.cellsOf 48=1:=by kernel_rfl
def mr(b o n:Nat):(aD b o:Es).add n=aD b (o+n):=by
 unfold Addr.add;split
 .rename_i h;subst h;rfl
 rfl
section
variable{H:Type}{enc:E1×Aq->H}{w:AK}{base:Nat}{sp:Nat->Bool}{hd:Bool}
end
end
section
open Go.RowKit
variable{x:LR->Nat×Nat×Bool}
structure aj(B eb:Nat)(w v:AK):Prop where
 os:v.os=w.os
 tape:v.tape=w.tape
 output:v.output=w.output
 size:(w:Nat)<=v
 block:∀k,k<B->k≠eb->v.heap[k]?=w.heap[k]?
section
variable{B eb:Nat}{a b c:AK}
def aj.refl(w:AK):aj B eb w w:=⟨rfl,rfl,rfl,Zo _,λ_ _ _=>rfl⟩
def aj.trans(h:aj B eb a b)(k:aj B eb b c):aj B eb a c:=⟨k.os.trans h.os,k.tape.trans h.tape,k.output.trans h.output,Zz h.size k.size,λx d e=>(k.block x d e).trans (h.block x d e)⟩
def aj.of(h:Np B a b):aj B eb a b:=⟨h.os,h.tape,h.output,h.size,λk d _=>h.block k d⟩
def aj.set(h:aj B eb a b)(o:Nat)(x:Aq):aj B eb a (b.setCell (aD eb o) x):=by
 refine h.trans ⟨rfl,rfl,rfl,by simp[World.setCell],λk _ d=>?_⟩;show(b.heap.modify eb _)[k]?=_;rw[aaD,Zr (abj d)]
def aj.alloc(h:aj B eb a b)(d:B<=b)(o:Obj):aj B eb a (b.alloc o):=h.trans (.of ((Zx _ _).alloc d o))
def aj.drew(h:aj B eb a b):aj B eb a b.drew:=⟨h.os,h.tape,h.output,h.size,h.block⟩
def aj.grown(h:aj B eb a b){d:Option Nat}(e:b.grownBy c d)(f:B<=b)(g:∀k,d=some k->B<=k):aj B eb a c:=h.trans (.of ((Zx _ _).grown e f g))
def aj.cell(h:aj B eb a b){p:Es}(d:p.block<B)(e:p.block≠eb):b p=a p:=ZW (w:=a) (h.block p.block d e)
def bE.belowX{A:Option Es}{size:Nat}{d:List (List Aq)}(h:bE a A size d)(e:aj a eb a b)(i:∀x,A=some x->x.block≠eb):bE b A size d:=λk cs j=>by
 obtain⟨x,f,l,g,m⟩:=h k cs j;exact⟨x,f,l,ZB g e.size,λc u n=>(e.cell (p:=aD x.block (x.off+k*size+c)) g (i x f)).trans (m c u n)⟩
end
def kH(x y:Nat)(a:x<2147483648)(b:y<2147483648):Na .or .i64 (x:Int) (y:Int)=((x|||y:Nat):Int):=by
 have h:x|||y<2^31:=ab2 a b
 have e:∀z:Nat,z<2147483648->(BitVec.ofInt 64 (z:Int)).toNat=z:=λz c=>by
  rw[acR,ada];exact aac oM
 show IntKind.i64.wrap ((BitVec.ofInt 64 (x:Int)|||BitVec.ofInt 64 (y:Int)).toNat:Int)=_;rw[BitVec.toNat_or,e x a,e y b,ZZ];omega
def fR(x:Nat×Nat×Bool):List Aq:=[iU x.1,iI x.2.1,.bool x.2.2]
def orL(x:LR->Nat×Nat×Bool)(l:List LR):Nat:=l.foldl (λf r=>f|||(x r).2.1) 0
def Ek:(prog.info? 66).map (λi=>(i.zero,i.size,i.bytes))=some (some (.agg #[iU 0,iI 0,.bool false]),3,24):=by kernel_rfl
def I3{l:List LR}{k:Nat}{r:LR}(b:l[k]?=r):orL x (l.take (k+1))=orL x (l.take k)|||(x r).2.1:=by
 obtain⟨a,rfl⟩:=ZL.1 b;unfold orL;rw[aas a,ab3];rfl
def Pk(b:∀r,(x r).2.1<256)(l:List LR):orL x l<256:=by
 have a:∀(l:List LR)(f:Nat),f<256->l.foldl (λf r=>f|||(x r).2.1) f<256:=by
  intro l;induction l with
  |nil=>exact λf h=>h
  |cons r l c=>exact λf h=>c _ (ab2 (n:=8) h (b r))
 exact a l 0 oM
def Cg(hx:∀r,(x r).2.1<256)(d F:Nat)(hF:F<1073741824)(A:Option Es)(cap:Nat)(l:List LR)(hl:(l:Nat)<=1048576)(w:AK)
 (S:∀r,r∈l->∀W,Bf prog 35 #[eV r.o r.m r.a r.b r.c] W (ah (x r).1 (x r).2.1 (x r).2.2 W))
 (hr:bE w A 5 (l.map rrC))(hA:∀a,A=some a->a.block≠d)(heb:d<w)(T:w ⟨d,0,none⟩=some (.int .i64 F))(X:w.frozen? ⟨d,0,none⟩=false):
 Bf prog 24 #[.pointer (some ⟨d,0,none⟩),.slice A l cap] w λe w'=>
  ∃v,e=.returned v/\w'.ownsRow w 66 3 v l (l.flatMap λr=>fR (x r))/\aj w d w w'/\w' ⟨d,0,none⟩=some (.int .i64 ((F|||orL x l:Nat):Int))/\w'.frozen? ⟨d,0,none⟩=false:=by
 replace hr:=Zp hr;replace hA:=Zp hA;replace S:=Zp S;replace hx:=Zp hx;obtain⟨i0,hi,hz0,hz1,hz2⟩:=abq Ek;go_enter func24,ntmps24
 go_wp2
 go_loopw[5,6,7] (λv i _ wr=>∃k:Nat,k<=l/\i=.int .i64 k/\wr.ownsRow w 66 3 v k ((l.take k).flatMap λr=>fR (x r))/\aj w d w wr/\wr ⟨d,0,none⟩=some (.int .i64 ((F|||orL x (l.take k):Nat):Int))/\wr.frozen? ⟨d,0,none⟩=false) (λ_ i _ _=>l-(intOf i).toNat)
 case atStart=>exact⟨0,Z7 _,rfl,⟨rfl,.inl ⟨rfl,rfl⟩⟩,.refl _,by simpa[orL]using T,X⟩
 clear T X;obtain⟨k,hk,rfl,E,hB,T,X⟩:=hrel;by_cases hlt:k<l
 .obtain⟨r,L⟩:∃r,l[k]?=some r:=⟨_,ZN hlt⟩;obtain⟨⟨M,N,asp⟩,rfl,hsp,s,U⟩:=hr.out k (rrC r) (by simp[L]);have hne:=hA.out _ rfl;simp only at hsp s U hne;subst hsp;have H:∀c u,(rrC r)[c]?=some u->wr ⟨M,N+k*5+c,none⟩=some u:=λc u hu=>(hB.cell (p:=⟨M,N+k*5+c,none⟩) s hne).trans (U c u hu);have c0:wr ⟨M,N+k*5,none⟩=some (.int .i64 r.o):=H 0 _ rfl;have c1:wr ⟨M,N+k*5+1,none⟩=some (.int .i64 r.m):=H 1 _ rfl;have c2:wr ⟨M,N+k*5+2,none⟩=some (.int .u64 r.a):=H 2 _ rfl;have c3:wr ⟨M,N+k*5+3,none⟩=some (.int .u64 r.b):=H 3 _ rfl;have c4:wr ⟨M,N+k*5+4,none⟩=some (.int .u64 r.c):=H 4 _ rfl;have ead:(⟨M,N,none⟩:Es).add (k*5)=⟨M,N+k*5,none⟩:=by simp[Addr.add]
  have hkp:(k:Int)<l:=oM;have O:=S.out r (aae L);have hfl:=hx.out r;have hoL:=Pk hx.out (l.take k);have y:=I3 (x:=x) L;have z:=fU (λr=>fR (x r)) L;replace y:=Zp y;replace z:=Zp z;have hBs:=hB.size;clear H U;obtain⟨⟨C,q,f⟩,hxr⟩:∃t,x r=t:=⟨_,rfl⟩;rw[hxr]at O hfl y z;simp only at O hfl y z
  go_wp2_with(go_at_call 35;refine gB (O _) λB I=>?_)
  have hb1s:=I.size;have hc1:B ⟨d,0,none⟩=some (.int .i64 ((F|||orL x (l.take k):Nat):Int)):=(I.cell (p:=⟨d,0,none⟩) (show d<_ by omega)).trans T;have Q:B.frozen? ⟨d,0,none⟩=false:=(I.frozen (p:=⟨d,0,none⟩) (show d<_ by omega)).trans X;have hB1:aj w d w B:=hB.trans (.of (I.mono hBs));have ho1:=bY E I;have Y:(B.alloc (.cells #[.int .u64 C,.int .i64 q,.bool f] 66)) ⟨d,0,none⟩=some (.int .i64 ((F|||orL x (l.take k):Nat):Int)):=(aaU _ _ _ (show d<_ by omega)).trans hc1;have q1:(B.alloc (.cells #[.int .u64 C,.int .i64 q,.bool f] 66)).frozen? ⟨d,0,none⟩=false:=(abW _ _ _ (show d<_ by omega)).trans Q;have Z:(B.alloc (.cells #[.int .u64 C,.int .i64 q,.bool f] 66)) ⟨B,0,none⟩=some (.int .u64 C):=by rw[ZK _ _ _ _ rfl];rfl
  have q3:(B.alloc (.cells #[.int .u64 C,.int .i64 q,.bool f] 66)) ⟨B,1,none⟩=some (.int .i64 q):=by rw[ZK _ _ _ _ rfl];rfl
  have q4:(B.alloc (.cells #[.int .u64 C,.int .i64 q,.bool f] 66)) ⟨B,2,none⟩=some (.bool f):=by rw[ZK _ _ _ _ rfl];rfl
  have V:aj w d w (B.alloc (.cells #[.int .u64 C,.int .i64 q,.bool f] 66)):=hB1.alloc oM _;have P:=ho1.alloc (.cells #[.int .u64 C,.int .i64 q,.bool f] 66);have q7:(B:Nat)<(B.alloc (.cells #[.int .u64 C,.int .i64 q,.bool f] 66)):=sM;have hneb:B≠d:=oM;have hwb:(w:Nat)<=B:=oM;generalize B.alloc (.cells #[.int .u64 C,.int .i64 q,.bool f] 66)=W at Y q1 Z q3 q4 V P q7⊢;generalize B.heap.size=rb at Z q3 q4 q7 hneb hwb⊢;clear hc1 Q hB1 ho1 I hb1s E hB T X c0 c1 c2 c3 c4 ead hBs O;have hor:Na .or .i64 ((F|||orL x (l.take k):Nat):Int) (q:Int)=((F|||orL x (l.take k)|||q:Nat):Int):=kH _ _ (ZB (ab2 (n:=30) hF oM) oM) oM
  go_still_tail 10,(by kernel_rfl)
  replace Y:W.drew ⟨d,0,none⟩=some (.int .i64 ((F|||orL x (l.take k):Nat):Int)):=Y;replace q1:W.drew.frozen? ⟨d,0,none⟩=false:=q1;replace Z:W.drew ⟨rb,0,none⟩=some (.int .u64 C):=Z;replace q3:W.drew ⟨rb,1,none⟩=some (.int .i64 q):=q3;replace q4:W.drew ⟨rb,2,none⟩=some (.bool f):=q4;replace V:aj w d w W.drew:=V.drew;replace P:W.drew.ownsRow w 66 3 u5 k ((l.take k).flatMap λr=>fR (x r)):=P;replace q7:rb<W.drew:=q7;change wpList _ _ _ _ _ W.drew;generalize W.drew=G at Y q1 Z q3 q4 V P q7⊢;have J:∀g,u5.ownBlock=some g->(G.setCell ⟨d,0,none⟩ (.int .i64 ((F|||orL x (l.take k)|||q:Nat):Int))).heap[g]?=G.heap[g]?:=λg hg=>by
   show(G.heap.modify d _)[g]?=_;rw[aaD,Zr (by have:=(ak P hg).1;omega)]
  have q8:=bn P J;have q5s:=V.size
  go_wp2_with(at_builtin;refine aad _ rfl (.tmp 29) (.tmp 31) 49 rfl w 66 i0 _ 3 24 underlying49 hi hz0 hz1 hz2 rfl dC _ _ _ rfl (q8.alloc _) ⟨G,0,none⟩ 1 1 (fR (C,q,f)) rfl rfl ?c1 ?c2 ?c3 ?c4 ?c5 ?_)
  case c1=>
   have h:=hZ (w:=G.setCell ⟨d,0,none⟩ (.int .i64 ((F|||orL x (l.take k)|||q:Nat):Int))) (t:=66) (fR (C,q,f));rw[show((G.setCell ⟨d,0,none⟩ (.int .i64 ((F|||orL x (l.take k)|||q:Nat):Int))):Nat)=G by simp[World.setCell]]at h;exact h
  case c2=>intro u hu;simp[fR]at hu;rcases hu with rfl|rfl|rfl<;>rfl
  case c3=>simp only[maxLen];omega
  case c4=>omega
  case c5=>simp[World.setCell];omega
  intro v' w2 K D _;have R:((G.setCell ⟨d,0,none⟩ (.int .i64 ((F|||orL x (l.take k)|||q:Nat):Int))):Nat)=G:=by simp[World.setCell]
  have hb3:=(V.set 0 (.int .i64 ((F|||orL x (l.take k)|||q:Nat):Int))).alloc (by rw[R];exact q5s) (.cells #[.int .u64 C,.int .i64 q,.bool f] 66);have hb4:=hb3.grown D (by rw[show(((G.setCell ⟨d,0,none⟩ (.int .i64 ((F|||orL x (l.take k)|||q:Nat):Int))).alloc (.cells #[.int .u64 C,.int .i64 q,.bool f] 66)):Nat)=G+1 by simp[World.setCell]];omega) λj hj=>(ak P hj).1;have s:w2.heap[d]?=(G.setCell ⟨d,0,none⟩ (.int .i64 ((F|||orL x (l.take k)|||q:Nat):Int))).heap[d]?:=
   (D.block d (by rw[show(((G.setCell ⟨d,0,none⟩ (.int .i64 ((F|||orL x (l.take k)|||q:Nat):Int))).alloc (.cells #[.int .u64 C,.int .i64 q,.bool f] 66)):Nat)=G+1 by simp[World.setCell]];omega) λe=>by have:=(ak P e.symm).1;omega).trans (aap _ _ _ (by rw[R];omega))
  have hce:w2 ⟨d,0,none⟩=some (.int .i64 ((F|||orL x (l.take (k+1)):Nat):Int)):=by
   rw[ZW s,y.out,<-abb];simp[go_sem,Y]
  have hcf:w2.frozen? ⟨d,0,none⟩=false:=by
   rw[aak s];simpa using q1
  have hrel:w2.ownsRow w 66 3 v' (k+1) ((l.take (k+1)).flatMap λr=>fR (x r)):=by rw[z.out];exact K
  clear K D Y q1 Z q3 q4 V P q7 q8 J hb3 s y z
  go_wp2
  go_roundw
  case rel=>exact⟨k+1,hlt,by go_num,hrel,hb4,hce,hcf⟩
  simp[intOf];omega
 obtain rfl:k=l:=oM;rw[aaL]at E T
 go_wp2
 go_ret
 exact⟨_,rfl,E,hB,T,X⟩
end
section
open Go.RowKit
variable{F k n:Nat}{stop:Int}{x:LR->Nat×Nat×Bool}
def cJ(n:Nat)(stop:Int):Nat:=if 1<=stop/\stop<=n then stop.toNat else n
def sE(h:∀j:Nat,1<=j->j<=n->(j:Int)≠stop):cJ n stop=n:=by
 unfold cJ;split
 .rename_i a;exact absurd oM (h stop.toNat oM oM)
 rfl
def oy(h:((k+1:Nat):Int)=stop)(a:k<n):cJ n stop=k+1:=by
 unfold cJ;rw[ZC oM];omega
def aW(x:LR->Nat×Nat×Bool)(F:Nat)(l:List LR):Nat:=l.foldl (λf r=>(if r.o=10/\(x r).2.2=false then 0 else f)|||(x r).2.1) F
def vD{l:List LR}{r:LR}(b:l[k]?=r):aW x F (l.take (k+1))=(if r.o=10/\(x r).2.2=false then 0 else aW x F (l.take k))|||(x r).2.1:=by
 obtain⟨a,rfl⟩:=ZL.1 b;unfold aW;rw[aas a,ab3];rfl
def rJ(b:∀r,(x r).2.1<256)(c:F<1073741824)(l:List LR):aW x F l<1073741824:=by
 have a:∀(l:List LR)(f:Nat),f<1073741824->l.foldl (λf r=>(if r.o=10/\(x r).2.2=false then 0 else f)|||(x r).2.1) f<1073741824:=by
  intro l;induction l with
  |nil=>exact λf h=>h
  |cons r l d=>
   refine λf h=>d _ (ab2 (n:=30) ?_ (ZB (b r) oM));split
   .omega
   exact h
 exact a l F c
def Ig(hx:∀r,(x r).2.1<256)(d F:Nat)(hF:F<1073741824)(A:Option Es)(cap:Nat)(l:List LR)(hl:(l:Nat)<=1048576)(stop:Int)(w:AK)
 (hDo:∀r,r∈l->∀W,Bf prog 35 #[eV r.o r.m r.a r.b r.c] W (ah (x r).1 (x r).2.1 (x r).2.2 W))
 (hr:bE w A 5 (l.map rrC))(hA:∀a,A=some a->a.block≠d)(heb:d<w)(hc:w ⟨d,0,none⟩=some (.int .i64 F))(hz:w.frozen? ⟨d,0,none⟩=false):
 Bf prog 25 #[.pointer (some ⟨d,0,none⟩),.slice A l cap,.int .i64 stop] w λe w'=>
  ∃v,e=.returned v/\w'.ownsRow w 66 3 v (cJ l stop) ((l.take (cJ l stop)).flatMap λr=>fR (x r))/\aj w d w w'/\w' ⟨d,0,none⟩=some (.int .i64 ((aW x F (l.take (cJ l stop)):Nat):Int))/\w'.frozen? ⟨d,0,none⟩=false:=by
 replace hr:=Zp hr;replace hA:=Zp hA;replace hDo:=Zp hDo;replace hx:=Zp hx;obtain⟨i0,hi,hz0,hz1,hz2⟩:=abq Ek;go_enter func25,ntmps25
 go_wp2
 go_loopw[7,8,9] (λv i _ wr=>∃k:Nat,k<=l/\i=.int .i64 k/\Hid (∀j:Nat,1<=j->j<=k->(j:Int)≠stop)/\wr.ownsRow w 66 3 v k ((l.take k).flatMap λr=>fR (x r))/\aj w d w wr/\wr ⟨d,0,none⟩=some (.int .i64 ((aW x F (l.take k):Nat):Int))/\wr.frozen? ⟨d,0,none⟩=false) (λ_ i _ _=>l-(intOf i).toNat)
 case atStart=>exact⟨0,Z7 _,rfl,Zp (λj h1 h2=>oM),⟨rfl,.inl ⟨rfl,rfl⟩⟩,.refl _,by simpa[aW]using hc,hz⟩
 clear hc hz;obtain⟨k,hk,rfl,V,hown,hB,hc,hz⟩:=hrel;by_cases X:k<l
 .obtain⟨r,hrk⟩:∃r,l[k]?=some r:=⟨_,ZN X⟩;obtain⟨⟨ab,ao,asp⟩,rfl,hsp,s,hcr⟩:=hr.out k (rrC r) (by simp[hrk]);have hne:=hA.out _ rfl;simp only at hsp s hcr hne;subst hsp;have hcB:∀c u,(rrC r)[c]?=some u->wr ⟨ab,ao+k*5+c,none⟩=some u:=λc u M=>(hB.cell (p:=⟨ab,ao+k*5+c,none⟩) s hne).trans (hcr c u M);have c0:wr ⟨ab,ao+k*5,none⟩=some (.int .i64 r.o):=hcB 0 _ rfl;have c1:wr ⟨ab,ao+k*5+1,none⟩=some (.int .i64 r.m):=hcB 1 _ rfl;have c2:wr ⟨ab,ao+k*5+2,none⟩=some (.int .u64 r.a):=hcB 2 _ rfl;have c3:wr ⟨ab,ao+k*5+3,none⟩=some (.int .u64 r.b):=hcB 3 _ rfl;have c4:wr ⟨ab,ao+k*5+4,none⟩=some (.int .u64 r.c):=hcB 4 _ rfl;have ead:(⟨ab,ao,none⟩:Es).add (k*5)=⟨ab,ao+k*5,none⟩:=by simp[Addr.add]
  have hkp:(k:Int)<l:=oM;have hdo:=hDo.out r (aae hrk);have hfl:=hx.out r;have hoL:=rJ hx.out hF (l.take k);have B:=vD (x:=x) (F:=F) hrk;have I:=fU (λr=>fR (x r)) hrk;replace I:=Zp I;have hBs:=hB.size;clear hcB hcr;obtain⟨⟨E,f,y⟩,hxr⟩:∃t,x r=t:=⟨_,rfl⟩;rw[hxr]at hdo hfl B I;simp only at hdo hfl B I;go_upto_region 6 with(go_at_call 35;refine gB (hdo _) λN Y=>?_);have hb1s:=Y.size;have hB1:aj w d w N:=hB.trans (.of (Y.mono hBs));have ho1:=bY hown Y;have O:(N.alloc (.cells #[.int .u64 E,.int .i64 f,.bool y] 66)) ⟨d,0,none⟩=some (.int .i64 ((aW x F (l.take k):Nat):Int)):=(aaU _ _ _ (show d<_ by omega)).trans ((Y.cell (p:=⟨d,0,none⟩) (show d<_ by omega)).trans hc);have q1:(N.alloc (.cells #[.int .u64 E,.int .i64 f,.bool y] 66)).frozen? ⟨d,0,none⟩=false:=(abW _ _ _ (show d<_ by omega)).trans ((Y.frozen (p:=⟨d,0,none⟩) (show d<_ by omega)).trans hz);have Z:(N.alloc (.cells #[.int .u64 E,.int .i64 f,.bool y] 66)) ⟨N,0,none⟩=some (.int .u64 E):=by rw[ZK _ _ _ _ rfl];rfl
  have q3:(N.alloc (.cells #[.int .u64 E,.int .i64 f,.bool y] 66)) ⟨N,1,none⟩=some (.int .i64 f):=by rw[ZK _ _ _ _ rfl];rfl
  have q4:(N.alloc (.cells #[.int .u64 E,.int .i64 f,.bool y] 66)) ⟨N,2,none⟩=some (.bool y):=by rw[ZK _ _ _ _ rfl];rfl
  have L:aj w d w (N.alloc (.cells #[.int .u64 E,.int .i64 f,.bool y] 66)):=hB1.alloc oM _;have G:=ho1.alloc (.cells #[.int .u64 E,.int .i64 f,.bool y] 66);have q7:(N:Nat)<(N.alloc (.cells #[.int .u64 E,.int .i64 f,.bool y] 66)):=sM;have cW:(N.alloc (.cells #[.int .u64 E,.int .i64 f,.bool y] 66)) ⟨ab,ao+k*5,none⟩=some (.int .i64 r.o):=(aaU _ _ _ (show ab<_ by omega)).trans ((Y.cell (p:=⟨ab,ao+k*5,none⟩) (show ab<_ by omega)).trans c0);have hneb:N≠d:=oM;have hwb:(w:Nat)<=N:=oM;generalize N.alloc (.cells #[.int .u64 E,.int .i64 f,.bool y] 66)=W at O q1 Z q3 q4 L G q7 cW⊢;generalize N.heap.size=U at Z q3 q4 q7 hneb hwb⊢;clear hB1 ho1 Y hb1s hown hB hc hz c0 c1 c2 c3 c4 hBs hdo;by_cases hcl:r.o=10/\y=false
  .obtain⟨ho10,rfl⟩:=hcl;have hop:(r.o:Int)=10:=oM;(have hop2:((r.o:Int)==10):=by simp[hop]);rw[ZC ⟨ho10,rfl⟩]at B;replace B:=Zp B;go_upto_region 8 with(fail);(have p0:(W.setCell ⟨d,0,none⟩ (.int .i64 0)) ⟨d,0,none⟩=some (.int .i64 0):=by simp[go_sem,O]);(have p1:(W.setCell ⟨d,0,none⟩ (.int .i64 0)).frozen? ⟨d,0,none⟩=false:=by simpa using q1);(have p2:(W.setCell ⟨d,0,none⟩ (.int .i64 0)) ⟨U,0,none⟩=some (.int .u64 E):=by simp[go_sem,Z,hneb]);(have p3:(W.setCell ⟨d,0,none⟩ (.int .i64 0)) ⟨U,1,none⟩=some (.int .i64 f):=by simp[go_sem,q3,hneb]);(have p4:(W.setCell ⟨d,0,none⟩ (.int .i64 0)) ⟨U,2,none⟩=some (.bool false):=by simp[go_sem,q4,hneb]);have p5:=L.set 0 (.int .i64 0);have p6:(W.setCell ⟨d,0,none⟩ (.int .i64 0)).ownsRow w 66 3 u7 k ((l.take k).flatMap λr=>fR (x r)):=bn G λg hg=>by
    show(W.heap.modify d _)[g]?=_;rw[aaD,Zr (by have:=(ak G hg).1;omega)]
   (have p7:U<(W.setCell ⟨d,0,none⟩ (.int .i64 0)):=by simp[World.setCell];omega);clear O q1 Z q3 q4 L G q7 cW;generalize W.setCell ⟨d,0,none⟩ (.int .i64 0)=W0 at p0 p1 p2 p3 p4 p5 p6 p7⊢;have cW:=hop;have hor:Na .or .i64 0 (f:Int)=(f:Int):=by have:=kH 0 f oM oM;simpa using this
   go_still_tail 10,(by kernel_rfl)
   have O:W0.drew ⟨d,0,none⟩=some (.int .i64 0):=p0;have q1:W0.drew.frozen? ⟨d,0,none⟩=false:=p1;have Z:W0.drew ⟨U,0,none⟩=some (.int .u64 E):=p2;have q3:W0.drew ⟨U,1,none⟩=some (.int .i64 f):=p3;have q4:W0.drew ⟨U,2,none⟩=some (.bool false):=p4;have L:aj w d w W0.drew:=p5.drew;have G:W0.drew.ownsRow w 66 3 u7 k ((l.take k).flatMap λr=>fR (x r)):=p6;have q7:U<W0.drew:=p7;clear p0 p1 p2 p3 p4 p5 p6 p7;change wpList _ _ _ _ _ W0.drew;generalize W0.drew=z at O q1 Z q3 q4 L G q7⊢;clear cW;have C:∀g,u7.ownBlock=some g->(z.setCell ⟨d,0,none⟩ (.int .i64 (f:Int))).heap[g]?=z.heap[g]?:=λg hg=>by
    show(z.heap.modify d _)[g]?=_;rw[aaD,Zr (by have:=(ak G hg).1;omega)]
   have q8:=bn G C;have q5s:=L.size
   go_wp2_with(at_builtin;refine aad _ rfl (.tmp 45) (.tmp 47) 49 rfl w 66 i0 _ 3 24 underlying49 hi hz0 hz1 hz2 rfl dC _ _ _ rfl (q8.alloc _) ⟨z,0,none⟩ 1 1 (fR (E,f,false)) rfl rfl ?c1 ?c2 ?c3 ?c4 ?c5 ?_)
   case c1=>
    have h:=hZ (w:=(z.setCell ⟨d,0,none⟩ (.int .i64 (f:Int)))) (t:=66) (fR (E,f,false));rw[show((z.setCell ⟨d,0,none⟩ (.int .i64 (f:Int))):Nat)=z by simp[World.setCell]]at h;exact h
   case c2=>intro u M;simp[fR]at M;rcases M with rfl|rfl|rfl<;>rfl
   case c3=>simp only[maxLen];omega
   case c4=>omega
   case c5=>simp[World.setCell];omega
   intro v' w2 D q _;(have H:((z.setCell ⟨d,0,none⟩ (.int .i64 (f:Int))):Nat)=z:=by simp[World.setCell]);(have J:(((z.setCell ⟨d,0,none⟩ (.int .i64 (f:Int))).alloc (.cells #[.int .u64 E,.int .i64 f,.bool false] 66)):Nat)=z+1:=by simp[World.setCell]);have P:=(L.set 0 (.int .i64 (f:Int))).alloc (by rw[H];exact q5s) (.cells #[.int .u64 E,.int .i64 f,.bool false] 66);have Q:=P.grown q (by rw[J];omega) λj hj=>(ak G hj).1;have s:w2.heap[d]?=(z.setCell ⟨d,0,none⟩ (.int .i64 (f:Int))).heap[d]?:=
    (q.block d (by rw[J];omega) λe=>by have:=(ak G e.symm).1;omega).trans (aap _ _ _ (by rw[H];omega))
   have R:w2 ⟨d,0,none⟩=some (.int .i64 ((aW x F (l.take (k+1)):Nat):Int)):=by
    rw[ZW s,B.out];simp[go_sem,O]
   have S:w2.frozen? ⟨d,0,none⟩=false:=by
    rw[aak s];simpa using q1
   (have hrel:w2.ownsRow w 66 3 v' (k+1) ((l.take (k+1)).flatMap λr=>fR (x r)):=by rw[I.out];exact D);clear D q O q1 Z q3 q4 L G q7 q8 C P s J;obtain⟨vA,vc,rfl⟩:=ba hrel;by_cases hs:((k+1:Nat):Int)=stop
   .have M:=oy hs X;have K:(k:Int)+1=stop:=oM;have hs2:((k:Int)+1==stop):=by simp[K]
    go_wp2
    go_ret
    rw[M];exact⟨_,rfl,hrel,Q,R,S⟩
   have K:¬(k:Int)+1=stop:=oM;(have hs2:((k:Int)+1==stop)=false:=by simp[K]);have T:Hid (∀j:Nat,1<=j->j<=k+1->(j:Int)≠stop):=Zp λj h1 h2=>by
    by_cases e:j=k+1
    .subst e;exact hs
    exact V.out j h1 oM
   clear V
   go_wp2
   go_roundw
   case rel=>exact⟨k+1,X,by go_num,T,hrel,Q,R,S⟩
   simp[intOf];omega
  have hnc:((r.o:Int)==10&&!y)=false:=by
   cases y with
   |true=>simp
   |false=>simp at hcl⊢;omega
  rw[Zr hcl]at B;replace B:=Zp B;rcases aeh ((r.o:Int)==10)with ho|ho
  .obtain rfl:y:=by
    cases y with
    |true=>rfl
    |false=>rw[ho]at hnc;cases hnc
   (have ho':(r.o:Int)=10:=by simpa using ho);have hor:Na .or .i64 ((aW x F (l.take k):Nat):Int) (f:Int)=((aW x F (l.take k)|||f:Nat):Int):=kH _ _ (by have:=hoL;omega) oM;go_upto_region 8 with(fail)
   go_still_tail 10,(by kernel_rfl)
   replace O:W.drew ⟨d,0,none⟩=some (.int .i64 ((aW x F (l.take k):Nat):Int)):=O;replace q1:W.drew.frozen? ⟨d,0,none⟩=false:=q1;replace Z:W.drew ⟨U,0,none⟩=some (.int .u64 E):=Z;replace q3:W.drew ⟨U,1,none⟩=some (.int .i64 f):=q3;replace q4:W.drew ⟨U,2,none⟩=some (.bool true):=q4;replace L:aj w d w W.drew:=L.drew;replace G:W.drew.ownsRow w 66 3 u7 k ((l.take k).flatMap λr=>fR (x r)):=G;replace q7:U<W.drew:=q7;change wpList _ _ _ _ _ W.drew;generalize W.drew=z at O q1 Z q3 q4 L G q7⊢;clear cW;have C:∀g,u7.ownBlock=some g->(z.setCell ⟨d,0,none⟩ (.int .i64 ((aW x F (l.take k)|||f:Nat):Int))).heap[g]?=z.heap[g]?:=λg hg=>by
    show(z.heap.modify d _)[g]?=_;rw[aaD,Zr (by have:=(ak G hg).1;omega)]
   have q8:=bn G C;have q5s:=L.size
   go_wp2_with(at_builtin;refine aad _ rfl (.tmp 45) (.tmp 47) 49 rfl w 66 i0 _ 3 24 underlying49 hi hz0 hz1 hz2 rfl dC _ _ _ rfl (q8.alloc _) ⟨z,0,none⟩ 1 1 (fR (E,f,true)) rfl rfl ?c1 ?c2 ?c3 ?c4 ?c5 ?_)
   case c1=>
    have h:=hZ (w:=(z.setCell ⟨d,0,none⟩ (.int .i64 ((aW x F (l.take k)|||f:Nat):Int)))) (t:=66) (fR (E,f,true));rw[show((z.setCell ⟨d,0,none⟩ (.int .i64 ((aW x F (l.take k)|||f:Nat):Int))):Nat)=z by simp[World.setCell]]at h;exact h
   case c2=>intro u M;simp[fR]at M;rcases M with rfl|rfl|rfl<;>rfl
   case c3=>simp only[maxLen];omega
   case c4=>omega
   case c5=>simp[World.setCell];omega
   intro v' w2 D q _;(have H:((z.setCell ⟨d,0,none⟩ (.int .i64 ((aW x F (l.take k)|||f:Nat):Int))):Nat)=z:=by simp[World.setCell]);(have J:(((z.setCell ⟨d,0,none⟩ (.int .i64 ((aW x F (l.take k)|||f:Nat):Int))).alloc (.cells #[.int .u64 E,.int .i64 f,.bool true] 66)):Nat)=z+1:=by simp[World.setCell]);have P:=(L.set 0 (.int .i64 ((aW x F (l.take k)|||f:Nat):Int))).alloc (by rw[H];exact q5s) (.cells #[.int .u64 E,.int .i64 f,.bool true] 66);have Q:=P.grown q (by rw[J];omega) λj hj=>(ak G hj).1;have s:w2.heap[d]?=(z.setCell ⟨d,0,none⟩ (.int .i64 ((aW x F (l.take k)|||f:Nat):Int))).heap[d]?:=
    (q.block d (by rw[J];omega) λe=>by have:=(ak G e.symm).1;omega).trans (aap _ _ _ (by rw[H];omega))
   have R:w2 ⟨d,0,none⟩=some (.int .i64 ((aW x F (l.take (k+1)):Nat):Int)):=by
    rw[ZW s,B.out];simp[go_sem,O]
   have S:w2.frozen? ⟨d,0,none⟩=false:=by
    rw[aak s];simpa using q1
   (have hrel:w2.ownsRow w 66 3 v' (k+1) ((l.take (k+1)).flatMap λr=>fR (x r)):=by rw[I.out];exact D);clear D q O q1 Z q3 q4 L G q7 q8 C P s J;obtain⟨vA,vc,rfl⟩:=ba hrel;by_cases hs:((k+1:Nat):Int)=stop
   .have M:=oy hs X;have K:(k:Int)+1=stop:=oM;have hs2:((k:Int)+1==stop):=by simp[K]
    go_wp2
    go_ret
    rw[M];exact⟨_,rfl,hrel,Q,R,S⟩
   have K:¬(k:Int)+1=stop:=oM;(have hs2:((k:Int)+1==stop)=false:=by simp[K]);have T:Hid (∀j:Nat,1<=j->j<=k+1->(j:Int)≠stop):=Zp λj h1 h2=>by
    by_cases e:j=k+1
    .subst e;exact hs
    exact V.out j h1 oM
   clear V
   go_wp2
   go_roundw
   case rel=>exact⟨k+1,X,by go_num,T,hrel,Q,R,S⟩
   simp[intOf];omega
  have ho':¬(r.o:Int)=10:=by simpa using ho
  have hor:Na .or .i64 ((aW x F (l.take k):Nat):Int) (f:Int)=((aW x F (l.take k)|||f:Nat):Int):=kH _ _ (by have:=hoL;omega) oM;go_upto_region 8 with(fail)
  go_still_tail 10,(by kernel_rfl)
  replace O:W.drew ⟨d,0,none⟩=some (.int .i64 ((aW x F (l.take k):Nat):Int)):=O;replace q1:W.drew.frozen? ⟨d,0,none⟩=false:=q1;replace Z:W.drew ⟨U,0,none⟩=some (.int .u64 E):=Z;replace q3:W.drew ⟨U,1,none⟩=some (.int .i64 f):=q3;replace q4:W.drew ⟨U,2,none⟩=some (.bool y):=q4;replace L:aj w d w W.drew:=L.drew;replace G:W.drew.ownsRow w 66 3 u7 k ((l.take k).flatMap λr=>fR (x r)):=G;replace q7:U<W.drew:=q7;change wpList _ _ _ _ _ W.drew;generalize W.drew=z at O q1 Z q3 q4 L G q7⊢;clear cW;have C:∀g,u7.ownBlock=some g->(z.setCell ⟨d,0,none⟩ (.int .i64 ((aW x F (l.take k)|||f:Nat):Int))).heap[g]?=z.heap[g]?:=λg hg=>by
   show(z.heap.modify d _)[g]?=_;rw[aaD,Zr (by have:=(ak G hg).1;omega)]
  have q8:=bn G C;have q5s:=L.size
  go_wp2_with(at_builtin;refine aad _ rfl (.tmp 45) (.tmp 47) 49 rfl w 66 i0 _ 3 24 underlying49 hi hz0 hz1 hz2 rfl dC _ _ _ rfl (q8.alloc _) ⟨z,0,none⟩ 1 1 (fR (E,f,y)) rfl rfl ?c1 ?c2 ?c3 ?c4 ?c5 ?_)
  case c1=>
   have h:=hZ (w:=(z.setCell ⟨d,0,none⟩ (.int .i64 ((aW x F (l.take k)|||f:Nat):Int)))) (t:=66) (fR (E,f,y));rw[show((z.setCell ⟨d,0,none⟩ (.int .i64 ((aW x F (l.take k)|||f:Nat):Int))):Nat)=z by simp[World.setCell]]at h;exact h
  case c2=>intro u M;simp[fR]at M;rcases M with rfl|rfl|rfl<;>rfl
  case c3=>simp only[maxLen];omega
  case c4=>omega
  case c5=>simp[World.setCell];omega
  intro v' w2 D q _;have H:((z.setCell ⟨d,0,none⟩ (.int .i64 ((aW x F (l.take k)|||f:Nat):Int))):Nat)=z:=by simp[World.setCell]
  have J:(((z.setCell ⟨d,0,none⟩ (.int .i64 ((aW x F (l.take k)|||f:Nat):Int))).alloc (.cells #[.int .u64 E,.int .i64 f,.bool y] 66)):Nat)=z+1:=by simp[World.setCell]
  have P:=(L.set 0 (.int .i64 ((aW x F (l.take k)|||f:Nat):Int))).alloc (by rw[H];exact q5s) (.cells #[.int .u64 E,.int .i64 f,.bool y] 66);have Q:=P.grown q (by rw[J];omega) λj hj=>(ak G hj).1;have s:w2.heap[d]?=(z.setCell ⟨d,0,none⟩ (.int .i64 ((aW x F (l.take k)|||f:Nat):Int))).heap[d]?:=
   (q.block d (by rw[J];omega) λe=>by have:=(ak G e.symm).1;omega).trans (aap _ _ _ (by rw[H];omega))
  have R:w2 ⟨d,0,none⟩=some (.int .i64 ((aW x F (l.take (k+1)):Nat):Int)):=by
   rw[ZW s,B.out];simp[go_sem,O]
  have S:w2.frozen? ⟨d,0,none⟩=false:=by
   rw[aak s];simpa using q1
  have hrel:w2.ownsRow w 66 3 v' (k+1) ((l.take (k+1)).flatMap λr=>fR (x r)):=by rw[I.out];exact D
  clear D q O q1 Z q3 q4 L G q7 q8 C P s J;obtain⟨vA,vc,rfl⟩:=ba hrel;by_cases hs:((k+1:Nat):Int)=stop
  .have M:=oy hs X;have K:(k:Int)+1=stop:=oM;have hs2:((k:Int)+1==stop):=by simp[K]
   go_wp2
   go_ret
   rw[M];exact⟨_,rfl,hrel,Q,R,S⟩
  have K:¬(k:Int)+1=stop:=oM;have hs2:((k:Int)+1==stop)=false:=by simp[K]
  have T:Hid (∀j:Nat,1<=j->j<=k+1->(j:Int)≠stop):=Zp λj h1 h2=>by
   by_cases e:j=k+1
   .subst e;exact hs
   exact V.out j h1 oM
  clear V
  go_wp2
  go_roundw
  case rel=>exact⟨k+1,X,by go_num,T,hrel,Q,R,S⟩
  simp[intOf];omega
 obtain rfl:k=l:=oM;have M:=sE V.out;rw[aaL]at hown hc
 go_wp2
 go_ret
 rw[M,aaL];exact⟨_,rfl,hown,hB,hc,hz⟩
end
section
open Go.RowKit
def nu(x:Nat)(a:U64 x)(w:AK):
 Bf prog 154 #[iU x] w λe w'=>e=.returned (iI (bl x))/\w=w':=
 (bits_Len64 x w oM (by have:=a.out;omega)).mono λe w' ⟨b,h2⟩=>⟨by rw[b,aaB,wM a],h2.symm⟩
def jo(x:Nat)(a:U64 x)(w:AK):
 Bf prog 150 #[iU x] w λe w'=>e=.returned (iI (64-(bl x:Int)))/\w=w':=
 (bits_LeadingZeros64 x w oM (by have:=a.out;omega)).mono λe w' ⟨b,h2⟩=>⟨by rw[b,aaB,wM a],h2.symm⟩
def lh(n:Nat)(a:au n)(w:AK):
 Bf prog 152 #[W4 n] w λe w'=>e=.returned (iI (bl n))/\Np w w w':=by
 have b:=jl (ax 0 n);have c:=jl (ax 1 n);have d:=jl (ax 2 n);have f:=jl (ax 3 n);go_enter func152,ntmps152
 go_wp2
 refine aat 5 ?_
 iterate 5 (all_goals((try rw[Zu]);go_wp2_with(go_at_call 154;refine gW (nu _ (ax _ _) _) ?_)))
 all_goals go_ret
 all_goals(refine⟨eY ?_,(Zx _ _).alloc (Zo _) _⟩)
 all_goals(try simp only[abH,Zs,ac9,bne_eq_false_iff_eq,ne_eq]at*);all_goals(have g:=KT a)
 all_goals omega
end
section
open Go.RowKit
variable{a0 a1 b0 b1 x y:Int}
@[irreducible]def mlH(x y:Int):Int:=x*y/18446744073709551616
@[irreducible]def mlL(x y:Int):Int:=x*y%18446744073709551616
def mul_lt(b:IsW x)(c:IsW y):0<=x*y/\x*y<=18446744073709551615*18446744073709551615:=by
 obtain⟨d,e⟩:=b;obtain⟨a,f⟩:=c;exact⟨Int.mul_nonneg d a,Int.mul_le_mul oM oM a oM⟩
def Mz(x y:Int):x*y=mlL x y+18446744073709551616*mlH x y:=by unfold mlL mlH;omega
def Ej(x y:Int):IsW (mlL x y):=by unfold IsW mlL;omega
def PD(a:IsW x)(b:IsW y):0<=mlH x y/\mlH x y<=18446744073709551614:=by
 have:=mul_lt a b;unfold mlH;omega
def nt(a:IsW x)(b:IsW y)(w:AK):
 Bf prog 163 #[iU x,iU y] w λe w'=>e=.returned (.tuple #[iU (mlH x y),iU (mlL x y)])/\w'=w:=by
 obtain⟨c,g⟩:=a;obtain⟨d,h⟩:=b;obtain⟨X,rfl⟩:=aaQ c;obtain⟨Y,rfl⟩:=aaQ d;refine(bits_Mul64 X Y oM oM w).mono λe w' ⟨f,h2⟩=>⟨?_,h2⟩;rw[f];unfold mlH mlL;simp
@[irreducible]def msL(a b o c:Int):Int:=adS (adS (mlL a b) o 0) c 0
@[irreducible]def msH(a b o c:Int):Int:=IntKind.u64.wrap (IntKind.u64.wrap (mlH a b+adC (mlL a b) o 0)+adC (adS (mlL a b) o 0) c 0)
def oX(a b o c:Int):IsW (msL a b o c):=by unfold msL;exact ij _ _ _
def oY(a b o c:Int):IsW (msH a b o c):=by unfold msH;rw[ZV];unfold IsW;omega
def rO{a b o c:Int}(e:IsW a)(g:IsW b)(i:IsW o)(j:IsW c):a*b+o+c=msL a b o c+18446744073709551616*msH a b o c:=by
 have e1:=Mz a b;have n:=PD e g;have k:=Ej a b;have e2:=nl k i gM;have m:=ij (mlL a b) o 0;have q:=nl m j gM;have r:=jA (mlL a b) o 0;have u:=jA (adS (mlL a b) o 0) c 0;have v:=ij (adS (mlL a b) o 0) c 0;have w:=mul_lt e g;unfold msL msH;simp only[ZV];generalize a*b=p at*;generalize adS (adS (mlL a b) o 0) c 0=s at*;generalize adC (adS (mlL a b) o 0) c 0=d at*;generalize adS (mlL a b) o 0=t at*;generalize adC (mlL a b) o 0=f at*;generalize mlL a b=l at*;generalize mlH a b=h at*;unfold IsW IsC at*;omega
def Jp(a b o c:Int):adS (adS (mlL a b) o 0) c 0=msL a b o c:=by unfold msL;rfl
def Jq(a b o c:Int):IntKind.u64.wrap (IntKind.u64.wrap (mlH a b+adC (mlL a b) o 0)+adC (adS (mlL a b) o 0) c 0)=msH a b o c:=by unfold msH;rfl
def Jk(a:IsW a0)(b:IsW a1)(c:IsW b0)(d:IsW b1):
 W4 ((a0+18446744073709551616*a1)*(b0+18446744073709551616*b1)).toNat=.agg #[iU (msL a0 b0 0 0),iU (msL a1 b0 (msL a0 b1 0 (msH a0 b0 0 0)) 0),
  iU (msL a1 b1 (msH a0 b1 0 (msH a0 b0 0 0)) (msH a1 b0 (msL a0 b1 0 (msH a0 b0 0 0)) 0)),iU (msH a1 b1 (msH a0 b1 0 (msH a0 b0 0 0)) (msH a1 b0 (msL a0 b1 0 (msH a0 b0 0 0)) 0))]:=by
 have z:=eR;have s1:=rO a c z z;have l1:=oX a0 b0 0 0;have f:=oY a0 b0 0 0;have s2:=rO a d z f;have l2:=oX a0 b1 0 (msH a0 b0 0 0);have g:=oY a0 b1 0 (msH a0 b0 0 0);have m:=rO b c l2 z;have h:=oX a1 b0 (msL a0 b1 0 (msH a0 b0 0 0)) 0;have i:=oY a1 b0 (msL a0 b1 0 (msH a0 b0 0 0)) 0;have n:=rO b d g i;have j:=oX a1 b1 (msH a0 b1 0 (msH a0 b0 0 0)) (msH a1 b0 (msL a0 b1 0 (msH a0 b0 0 0)) 0);have k:=oY a1 b1 (msH a0 b1 0 (msH a0 b0 0 0)) (msH a1 b0 (msL a0 b1 0 (msH a0 b0 0 0)) 0);refine Bx l1 h j k ?_;have l:0<=(a0+18446744073709551616*a1)*(b0+18446744073709551616*b1):=Int.mul_nonneg (by have:=a.1;have:=b.1;omega) (by have:=c.1;have:=d.1;omega);rw[Int.toNat_of_nonneg l];have e:(a0+18446744073709551616*a1)*(b0+18446744073709551616*b1)=a0*b0+18446744073709551616*(a0*b1)+18446744073709551616*(a1*b0)+340282366920938463463374607431768211456*(a1*b1):=by
  rw[Int.add_mul,Int.mul_add,Int.mul_add,Int.mul_left_comm a0 18446744073709551616 b1,Int.mul_assoc 18446744073709551616 a1 b0,Int.mul_assoc 18446744073709551616 a1 (18446744073709551616*b1),Int.mul_left_comm a1 18446744073709551616 b1];omega
 rw[e];omega
attribute[local go_sem] uj eR gM ij jA Ej Jp Jq oX oY
def yx(a:IsW a0)(b:IsW a1)(c:IsW b0)(d:IsW b1)(w:AK):
 Bf prog 151 #[.agg #[iU a0,iU a1],.agg #[iU b0,iU b1]] w λe w'=>e=.returned (W4 ((a0+18446744073709551616*a1)*(b0+18446744073709551616*b1)).toNat)/\Np w w w':=by
 rw[Jk a b c d];go_enter func151,ntmps151
 go_wp2
 refine aat 3 ?_;rw[Zu]
 go_wp2
 refine aat 3 ?_;rw[Zu]
 go_wp2
 go_region_held3(λw'=>cF w' w 0 (iU a0)/\cF w' (w+1) 0 (iU b0))
  (first|(refine⟨?_,?_⟩<;>(go_simp;done))|go_keep)
  (first|(go_at_call 163;refine(nt asT asT _).mono ?_;rintro e w'⟨rfl,rfl⟩))
 go_wp2
 rw[Zu]
 go_wp2
 go_region_held3(λw'=>cF w' w 0 (iU a0)/\cF w' (w+1) 1 (iU b1))
  (first|(refine⟨?_,?_⟩<;>(go_simp;done))|go_keep)
  (first|(go_at_call 163;refine(nt asT asT _).mono ?_;rintro e w'⟨rfl,rfl⟩))
 go_wp2
 rw[Zu]
 go_wp2
 rw[Zu]
 go_wp2
 refine aat 3 ?_;rw[Zu]
 go_wp2
 go_region_held3(λw'=>cF w' w 1 (iU a1)/\cF w' (w+1) 0 (iU b0))
  (first|(refine⟨?_,?_⟩<;>(go_simp;done))|go_keep)
  (first|(go_at_call 163;refine(nt asT asT _).mono ?_;rintro e w'⟨rfl,rfl⟩))
 go_wp2
 rw[Zu]
 go_wp2
 go_region_held3(λw'=>cF w' w 1 (iU a1)/\cF w' (w+1) 1 (iU b1))
  (first|(refine⟨?_,?_⟩<;>(go_simp;done))|go_keep)
  (first|(go_at_call 163;refine(nt asT asT _).mono ?_;rintro e w'⟨rfl,rfl⟩))
 go_wp2
 rw[Zu]
 go_wp2
 rw[Zu]
 go_wp2
 refine aaT (v:=.agg #[_,_,_,_]) (by simp[results,results151,go_sem]) rfl ⟨rfl,?_⟩;exact cB
end
section
open Go.RowKit
def K4(w:AK)(b:Nat)(c0 a c d:Aq):Prop:=(w ⟨b,0,none⟩=c0/\w ⟨b,1,none⟩=a/\w ⟨b,2,none⟩=c/\w ⟨b,3,none⟩=d)/\
 (w.frozen? ⟨b,0,none⟩=false/\w.frozen? ⟨b,1,none⟩=false/\w.frozen? ⟨b,2,none⟩=false/\w.frozen? ⟨b,3,none⟩=false)
section
variable{w w1:AK}{b:Nat}{c0 c1 c2 c3:Aq}
def K4.below{B:Nat}(h:K4 w b c0 c1 c2 c3)(c:Np B w w1)(a:b<B):K4 w1 b c0 c1 c2 c3:=by
 obtain⟨⟨d,e,f,g⟩,f0,f1,f2,f3⟩:=h;exact⟨⟨(c.cell a).trans d,(c.cell a).trans e,(c.cell a).trans f,(c.cell a).trans g⟩,(c.frozen a).trans f0,(c.frozen a).trans f1,(c.frozen a).trans f2,(c.frozen a).trans f3⟩
def aey:=@K4.below
def K4.drew(h:K4 w b c0 c1 c2 c3):K4 w.drew b c0 c1 c2 c3:=h
def aeB:=@K4.drew
def K4.alloc(h:K4 w b c0 c1 c2 c3)(a:b<w)(o:Obj):K4 (w.alloc o) b c0 c1 c2 c3:=
 h.below ((Zx _ w).alloc (Zo _) o) a
def K4.far(h:K4 w b c0 c1 c2 c3){p:Es}(c:p.block≠b)(v:Aq):K4 (w.setCell p v) b c0 c1 c2 c3:=by
 obtain⟨⟨d,f,g,j⟩,f0,f1,f2,f3⟩:=h;have a:∀i:Nat,p≠⟨b,i,none⟩:=λi e=>c (by rw[e]);exact⟨⟨(ZA _ _ _ _ (a 0)).trans d,(ZA _ _ _ _ (a 1)).trans f,(ZA _ _ _ _ (a 2)).trans g,(ZA _ _ _ _ (a 3)).trans j⟩,
  by simpa using f0,by simpa using f1,by simpa using f2,by simpa using f3⟩
def fh(b:Nat){i j:Nat}(h:i≠j):(⟨b,i,none⟩:Es)≠⟨b,j,none⟩:=λe=>h (by injection e)
def K4.set0(h:K4 w b c0 c1 c2 c3)(v:Aq):K4 (w.setCell ⟨b,0,none⟩ v) b v c1 c2 c3:=by
 obtain⟨⟨a,c,d,e⟩,f0,f1,f2,f3⟩:=h;exact⟨⟨aav _ _ _ a,(ZA _ _ _ _ (fh b dC)).trans c,(ZA _ _ _ _ (fh b dC)).trans d,(ZA _ _ _ _ (fh b dC)).trans e⟩,
  by simpa using f0,by simpa using f1,by simpa using f2,by simpa using f3⟩
def K4.set1(h:K4 w b c0 c1 c2 c3)(v:Aq):K4 (w.setCell ⟨b,1,none⟩ v) b c0 v c2 c3:=by
 obtain⟨⟨a,c,d,e⟩,f0,f1,f2,f3⟩:=h;exact⟨⟨(ZA _ _ _ _ (fh b dC)).trans a,aav _ _ _ c,(ZA _ _ _ _ (fh b dC)).trans d,(ZA _ _ _ _ (fh b dC)).trans e⟩,
  by simpa using f0,by simpa using f1,by simpa using f2,by simpa using f3⟩
def K4.set2(h:K4 w b c0 c1 c2 c3)(v:Aq):K4 (w.setCell ⟨b,2,none⟩ v) b c0 c1 v c3:=by
 obtain⟨⟨a,c,d,e⟩,f0,f1,f2,f3⟩:=h;exact⟨⟨(ZA _ _ _ _ (fh b dC)).trans a,(ZA _ _ _ _ (fh b dC)).trans c,aav _ _ _ d,(ZA _ _ _ _ (fh b dC)).trans e⟩,
  by simpa using f0,by simpa using f1,by simpa using f2,by simpa using f3⟩
def K4.set3(h:K4 w b c0 c1 c2 c3)(v:Aq):K4 (w.setCell ⟨b,3,none⟩ v) b c0 c1 c2 v:=by
 obtain⟨⟨a,c,d,e⟩,f0,f1,f2,f3⟩:=h;exact⟨⟨(ZA _ _ _ _ (fh b dC)).trans a,(ZA _ _ _ _ (fh b dC)).trans c,(ZA _ _ _ _ (fh b dC)).trans d,aav _ _ _ e⟩,
  by simpa using f0,by simpa using f1,by simpa using f2,by simpa using f3⟩
def K4.put(h:K4 w b c0 c1 c2 c3)(d0 d1 d2 d3:Aq):K4 ((((w.setCell ⟨b,0,none⟩ d0).setCell ⟨b,1,none⟩ d1).setCell ⟨b,2,none⟩ d2).setCell ⟨b,3,none⟩ d3) b d0 d1 d2 d3:=
 (((h.set0 d0).set1 d1).set2 d2).set3 d3
end
def K4.new(w:AK)(t:E1)(c0 a b c:Aq):K4 (w.alloc (.cells #[c0,a,b,c] t)) w c0 a b c:=by
 refine⟨⟨?_,?_,?_,?_⟩,?_,?_,?_,?_⟩<;>go_simp
def aeD:=@K4.new
abbrev C4(w:AK)(b n:Nat):Prop:=K4 w b (.int .u64 (wd 0 n)) (.int .u64 (wd 1 n)) (.int .u64 (wd 2 n)) (.int .u64 (wd 3 n))
end
section
open Go.RowKit
abbrev NV(a:Bool)(e:Int)(s:Nat)(l:Bool):Aq:=.agg #[.bool a,iI e,iU (wd 0 s),iU (wd 1 s),iU (wd 2 s),iU (wd 3 s),.bool l]
def aF(a:Bool):Nat:=if a then 9223372036854775808 else 0
def cA(a:Bool)(w:AK):Bf prog 149 #[.bool a] w λe w'=>e=.returned (iU (aF a))/\w=w':=by
 cases a
 .go_enter func149,ntmps149
  go_wp2
  go_ret
  exact⟨rfl,rfl⟩
 go_enter func149,ntmps149
 go_wp2
 go_ret
 exact⟨rfl,rfl⟩
def upB(m:Nat)(neg odd half left:Bool):Bool:=if m=0 then half&&(left||odd)else if m=1 then half else if m=3 then !neg&&(half||left)else if m=4 then neg&&(half||left)else false
def VA(c b a left:Bool)(w:AK):Bf prog 155 #[qB 0,.bool c,.bool b,.bool a,.bool left] w λe w'=>e=.returned (.bool (a&&(left||b)))/\w=w':=by
 go_enter func155,ntmps155
 go_wp2
 all_goals go_ret
 all_goals exact⟨lO (by simp[*]),rfl⟩
def Vz(b c a left:Bool)(w:AK):Bf prog 155 #[qB 1,.bool b,.bool c,.bool a,.bool left] w λe w'=>e=.returned (.bool (a))/\w=w':=by
 go_enter func155,ntmps155
 go_wp2
 all_goals go_ret
 all_goals exact⟨lO (by simp[*]),rfl⟩
def Vy(b c a left:Bool)(w:AK):Bf prog 155 #[qB 2,.bool b,.bool c,.bool a,.bool left] w λe w'=>e=.returned (.bool (false))/\w=w':=by
 go_enter func155,ntmps155
 go_wp2
 all_goals go_ret
 all_goals exact⟨lO (by simp[*]),rfl⟩
def Vx(neg odd half left:Bool)(w:AK):Bf prog 155 #[qB 3,.bool neg,.bool odd,.bool half,.bool left] w λe w'=>e=.returned (.bool (!neg&&(half||left)))/\w=w':=by
 go_enter func155,ntmps155
 go_wp2
 all_goals go_ret
 all_goals exact⟨lO (by simp[*]),rfl⟩
def Vw(b c a left:Bool)(w:AK):Bf prog 155 #[qB 4,.bool b,.bool c,.bool a,.bool left] w λe w'=>e=.returned (.bool (b&&(a||left)))/\w=w':=by
 go_enter func155,ntmps155
 go_wp2
 all_goals go_ret
 all_goals exact⟨lO (by simp[*]),rfl⟩
def sC(m:Nat)(d:m<5)(b c a left:Bool)(w:AK):Bf prog 155 #[qB m,.bool b,.bool c,.bool a,.bool left] w λe w'=>e=.returned (.bool (upB m b c a left))/\w=w':=by
 match m,d with
 |0,_=>exact VA b c a left w
 |1,_=>exact Vz b c a left w
 |2,_=>exact Vy b c a left w
 |3,_=>exact Vx b c a left w
 |4,_=>exact Vw b c a left w
def Vl(s1 s2:Nat)(w:AK):
 Bf prog 151 #[.agg #[iU (wd 0 s1),iU 0],.agg #[iU (wd 0 s2),iU 0]] w λe w'=>e=.returned (W4 (wd 0 s1*wd 0 s2))/\Np w w w':=by
 have:=yx (cV 0 s1) eR (cV 0 s2) eR w;have e:(((wd 0 s1:Nat):Int)+18446744073709551616*0)*(((wd 0 s2:Nat):Int)+18446744073709551616*0)=((wd 0 s1*wd 0 s2:Nat):Int):=by
  rw[Int.mul_zero,acY,acY,<-ac8]
 rw[e,aaB]at this;exact this
def E6{n1 n2 l1 l2:Bool}{e1 e2:Int}{s1 s2:Nat}(c:Nq (e1+e2)=e1+e2)(w:AK):
 Bf prog 142 #[NV n1 e1 s1 l1,NV n2 e2 s2 l2] w λe w'=>e=.returned (NV (n1 !=n2) (e1+e2) (wd 0 s1*wd 0 s2) false)/\Np w w w':=by
 go_enter func142,ntmps142
 go_wp2_with fail
 refine(Vl s1 s2 _).mono ?_;rintro e b⟨rfl,a⟩;have aJ:=(a).size;(try simp at aJ);have kL:(w:Nat)<b:=oM;have kK:(w:Nat)+1<b:=oM;have afd:(w:Nat)+1+1<b:=oM;obtain⟨cD,cC⟩:=bcC (w+1+1+1) a;go_simp;repeat(any_goals(first|go_values|go_skip|go_guarded|go_step|go_upon))
 refine aaT (v:=NV (n1 !=n2) (e1+e2) (wd 0 s1*wd 0 s2) false) ?_ rfl ⟨rfl,?_⟩
 .simp[results,results142,go_sem, *];cases n1<;>cases n2<;>rfl
 exact cB
end
section
open Go.RowKit
variable{s:Nat}
def dM(x:Nat):Nat:=x%4503599627370496
def gS(x:Nat):Nat:=x/4503599627370496%2048
@[irreducible]def ay(x:Nat):Nat:=if gS x=0 then dM x*2^(53-bl (dM x))else dM x+4503599627370496
@[irreducible]def bz(x:Nat):Int:=if gS x=0 then-1074-(53-(bl (dM x):Int))else(gS x:Int)-1075
def aE(x:Nat):Bool:=decide (x/9223372036854775808=1)
attribute[local go_sem] Bi OQ
def Hz(x:Nat)(b:U64 x)(s e:Int)(ng:Bool)(c:Na .or .u64 ((x:Int)%4503599627370496) 4503599627370496=s)(d:(x:Int)/4503599627370496%2048-1075=e)(f:decide (0<(x:Int)/4503599627370496%2048))(g:((x:Int)/9223372036854775808==1)=ng)(w:AK):
 Bf prog 141 #[iU x] w λa w'=>a=.returned (.agg #[.bool ng,iI e,iU s,iU 0,iU 0,iU 0,.bool false])/\Np w w w':=by
 go_enter func141,ntmps141;repeat(any_goals(first|go_values|go_skip|go_guarded|go_step|go_upon))
 exact bR ⟨rfl,cB⟩
def Hy(x:Nat)(f s k:Nat)(e:Int)(ng:Bool)(d:(x:Int)%4503599627370496=f)(a:U64 f)(g:Nq (64-(bl f:Int)-11)=k)(h:max (k:Int) 0=k)(i:-1074-(k:Int)=e)(j:(x:Int)/4503599627370496%2048=0)(l:((x:Int)/9223372036854775808==1)=ng)(b:k<64)(m:IntKind.u64.wrap ((f:Int)*2^k)=s)(w:AK):
 Bf prog 141 #[iU x] w λc w'=>c=.returned (.agg #[.bool ng,iI e,iU s,iU 0,iU 0,iU 0,.bool false])/\Np w w w':=by
 go_enter func141,ntmps141
 go_wp2_with(go_at_call 150;refine gW (jo _ a _) ?_)
 exact bR ⟨rfl,cB⟩
def kA(x:Nat):dM x<4503599627370496:=by unfold dM;omega
def yi(x:Nat):bl (dM x)<=52:=br.2 (kA x)
def eX(x:Nat):ay x<9007199254740992:=by
 have h:=kA x;unfold ay;split
 .have c:=yi x;have b:=aN (dM x);have a:dM x*2^(53-bl (dM x))<2^bl (dM x)*2^(53-bl (dM x)):=aax b (Zy _);rw[<-ZD,show bl (dM x)+(53-bl (dM x))=53 from by omega]at a;exact a
 omega
def lK(h:U64 s):W4 s=.agg #[iU s,iU 0,iU 0,iU 0]:=
 cE (b:=0) (c:=0) (d:=0) h (show 0<18446744073709551616 by decide) (show 0<18446744073709551616 by decide) (show 0<18446744073709551616 by decide) (by unfold of4;omega)
def Bp{ng:Bool}{e:Int}{l:Bool}(h:U64 s):NV ng e s l=.agg #[.bool ng,iI e,iU s,iU 0,iU 0,iU 0,.bool l]:=by
 have:=lK h;simp only[W4,Value.agg.injEq,aeZ,abd,adR,true_and,and_true]at this;obtain⟨a,b,c,d⟩:=this;unfold NV;rw[a,b,c,d]
def bu(x:Nat)(d:U64 x)(w:AK):
 Bf prog 141 #[iU x] w λg w'=>g=.returned (NV (aE x) (bz x) (ay x) false)/\Np w w w':=by
 have i:=d.out;have j:=eX x;rw[Bp (show ay x<18446744073709551616 by omega)];have e:((x:Int)/9223372036854775808==1)=aE x:=by
  unfold aE;by_cases h:x/9223372036854775808=1
  .rw[ZP h,abH];omega
  rw[Zv h,Zs];omega
 have k:=kA x;by_cases c:gS x=0
 .have m:=yi x;have a:ay x=dM x*2^(53-bl (dM x)):=by unfold ay;rw[ZC c]
  have b:bz x=-1074-(53-(bl (dM x):Int)):=by unfold bz;rw[ZC c]
  rw[b];refine Hy x (dM x) (ay x) (53-bl (dM x)) _ _ (by unfold dM;simp) (show dM x<18446744073709551616 by omega) (by unfold Nq;omega) oM oM (by unfold gS at c;omega) e oM ?_ w;have l:((dM x*2^(53-bl (dM x)):Nat):Int)=(dM x:Int)*2^(53-bl (dM x)):=sM;rw[a]at j⊢;rw[<-l,ZV];omega
 have a:ay x=dM x+4503599627370496:=by unfold ay;rw[Zr c]
 have b:bz x=(gS x:Int)-1075:=by unfold bz;rw[Zr c]
 have f:((x:Int)/4503599627370496%2048)=gS x:=by unfold gS;simp
 refine Hz x d (ay x) (bz x) _ ?_ (by rw[b,f]) (by rw[f];simp;omega) e w;have e1:(x:Int)%4503599627370496=(dM x:Nat):=by unfold dM;simp
 rw[e1,a];have:=acB (dM x) 4503599627370496 oM oM;rw[show((4503599627370496:Nat):Int)=4503599627370496 from rfl]at this;rw[this,Nat.or_comm,ael 52 4503599627370496 (dM x) dC k,aco]
end
section
def jB(n k:Nat):Bool:=decide (n/2^(k-1)%2=1)
def gC(n k:Nat):Bool:=decide (n%2^(k-1)≠0)
def il(m:Nat)(ng:Bool)(n:Nat)(K:Int):Nat:=if K<=0 then n*2^(-K).toNat else if upB m ng (decide (n/2^K.toNat%2=1)) (jB n K.toNat) (gC n K.toNat)then n/2^K.toNat+1 else n/2^K.toNat
def tX(n:Nat)(K:Int):Bool:=if K<=0 then false else jB n K.toNat||gC n K.toNat
def By{n k:Nat}(b:0<k):decide (n%2^k=0)=(!jB n k&&decide (n%2^(k-1)=0)):=by
 obtain⟨j,rfl⟩:∃j,k=j+1:=⟨k-1,oM⟩;rw[abt];unfold jB;rw[abt,aaO,adL];have c:=Zy j;have a:n/2^j%2=0\/n/2^j%2=1:=oM;generalize n%2^j=t at*;rcases a with a|a<;>rw[a]<;>simp<;>omega
def mk2(q:Nat)(wh:Bool):Nat:=q*2+(if wh then 0 else 1)
@[irreducible]def exN(x:Nat):Nat:=if gS x=0 then dM x else dM x+4503599627370496
@[irreducible]def exE(x:Nat):Int:=if gS x=0 then-1074 else(gS x:Int)-1075
def CX(x:Nat):exN x<9007199254740992:=by have:=kA x;unfold exN;split<;>omega
end
end Go.Proofs.YtldmbneckcjonaaDoor
