/- A part of the proof. -/
import Derived.BigQuiet
import Derived.Deep.CutBlock
import Derived.Test.YtldmbneckcjonaaDoorK1
set_option linter.defProp false
set_option linter.unusedVariables false
set_option linter.unusedSimpArgs false
set_option maxRecDepth 100000
set_option maxHeartbeats 8000000
noncomputable section
namespace Go.Proofs.YtldmbneckcjonaaDoor
open Go renaming World->AK,Value->Aq,Goroutine->Ar,Calls->Bf,undef->C0,Addr->Es,TypeId->E1,Program->E2,stepG->KC,Frame->K0,execOp->Lk,bits->Na,Event->Nc
open Go.RowKit renaming Below->Np,wrap64->Nq
open Go.Proofs.Tryd
section
variable{K e:Int}{j k n s:Nat}{l l0 ng:Bool}
def eU(m:Nat)(ng:Bool)(n:Nat)(l:Bool)(K:Int):Nat:=if K<=0 then n*2^(-K).toNat else if upB m ng (decide (n/2^K.toNat%2=1)) (jB n K.toNat) (gC n K.toNat||l)then n/2^K.toNat+1 else n/2^K.toNat
def gV(n:Nat)(l:Bool)(K:Int):Bool:=if K<=0 then l else jB n K.toNat||(gC n K.toNat||l)
def nR(m:Nat)(ng:Bool)(n:Nat)(l:Bool)(e:Int):Int:=(bl (eU m ng n l ((bl n:Int)-53)):Int)+e+bl n-54
@[irreducible]def az(m:Nat)(ng:Bool)(n:Nat)(l:Bool)(e:Int):Nat×Nat:=
 if 1024<=nR m ng n l e then(aF ng+(if m=2\/(m=3/\ng)\/(m=4/\ng=false)then 9218868437227405311 else 9218868437227405312),5)
 else if nR m ng n l e< -1022 then(aF ng+eU m ng n l (-1074-e),if gV n l (-1074-e)then 3 else 0)
 else(aF ng+(nR m ng n l e+1023).toNat*4503599627370496+((if bl (eU m ng n l ((bl n:Int)-53))=54 then eU m ng n l ((bl n:Int)-53)/2 else eU m ng n l ((bl n:Int)-53))-4503599627370496),if gV n l ((bl n:Int)-53)then 1 else 0)
def pq{m:Nat}(a:0<k):eU m ng n l k=if upB m ng (decide (n/2^k%2=1)) (jB n k) (gC n k||l)then n/2^k+1 else n/2^k:=by
 unfold eU;rw[Zr oM,aaB]
def mU(a:0<k):gV n l k=(jB n k||(gC n k||l)):=by
 unfold gV;rw[Zr oM,aaB]
def me{m:Nat}(hK:K<=0):eU m ng n l K=n*2^(-K).toNat:=by unfold eU;rw[ZC hK]
def mV(hK:K<=0):gV n l K=l:=by unfold gV;rw[ZC hK]
def pr{m:Nat}(a:0<k):n/2^k<=eU m ng n l k/\eU m ng n l k<=n/2^k+1:=by
 unfold eU;rw[Zr oM,aaB];split<;>omega
def wG{m:Nat}(h:n≠0):2^52<=eU m ng n l ((bl n:Int)-53)/\eU m ng n l ((bl n:Int)-53)<=2^53:=by
 have a:=fB h;have b:=aN n;have g:=ey.2 h;by_cases hK:(bl n:Int)-53<=0
 .have e1:eU m ng n l ((bl n:Int)-53)=n*2^(-((bl n:Int)-53)).toNat:=by unfold eU;rw[ZC hK]
  rw[e1];have e:(-((bl n:Int)-53)).toNat=53-bl n:=oM;rw[e];constructor
  .have:=Z9 (2^(53-bl n)) a;rw[<-ZD,show bl n-1+(53-bl n)=52 from by omega]at this;exact this
  have:=Z9 (2^(53-bl n)) (abw b);rw[<-ZD,show bl n+(53-bl n)=53 from by omega]at this;exact this
 obtain⟨k,f⟩:∃k,bl n=k+53:=⟨bl n-53,oM⟩;have c:0<k:=oM;rw[f]at a b⊢;rw[show((k+53:Nat):Int)-53=(k:Int)from by omega];obtain⟨i,o⟩:=pr (m:=m) (n:=n) (ng:=ng) (l:=l) c;have d:=Zy k;have d1:2^52<=n/2^k:=by
  rw[aa9 d,<-ZD];rw[show k+53-1=52+k from by omega]at a;exact a
 have d2:n/2^k<2^53:=by
  rw[Z4 d,<-ZD];rw[show k+53=53+k from by omega]at b;exact b
 omega
def dh(n:Nat)(l0:Bool)(j s:Nat)(l:Bool):Prop:=s=n/2^j/\l=(decide (n%2^j≠0)||l0)
def yW(a:0<k):jB n (k+j)=jB (n/2^j) k:=by
 unfold jB;rw[Z2,<-ZD,show k+j-1=j+(k-1)from by omega]
def xl(d:0<k)(l0:Bool):(gC n (k+j)||l0)=(gC (n/2^j) k||(decide (n%2^j≠0)||l0)):=by
 unfold gC;rw[show k+j-1=j+(k-1)from by omega,ZD,adL];have f:=Zy j;rw[<-ac2];congr 1;generalize n%2^j=t;generalize n/2^j%2^(k-1)=r;rw[abG,abi,ZU,ZU,ZU];constructor
 .intro h;by_cases a:r=0
  .subst a;exact .inr (by rw[aca]at h;omega)
  exact .inl a
 intro h g;have i:t=0:=oM;have b:2^j*r=0:=oM;rcases aa7.1 b with c|c
 .omega
 rcases h with h|h<;>contradiction
def nV{m:Nat}(h:dh n l0 j s l)(hK:0<K):eU m ng s l K=eU m ng n l0 (K+j)/\gV s l K=gV n l0 (K+j):=by
 obtain⟨rfl,rfl⟩:=h;obtain⟨k,rfl⟩:∃k:Nat,K=k:=⟨K.toNat,oM⟩;have a:0<k:=oM;rw[<-Int.natCast_add,pq a,mU a,pq (k:=k+j) oM,mU (k:=k+j) oM,yW a,xl a];have e2:n/2^(k+j)=n/2^j/2^k:=by rw[Z2,<-ZD,aco]
 rw[e2];exact⟨rfl,rfl⟩
def dS{m:Nat}(h:dh n l0 j s l)(r:54<=bl s):az m ng s l (e+j)=az m ng n l0 e:=by
 have a:s≠0:=ey.1 oM;have t:bl n=bl s+j:=by rw[h.1]at a⊢;exact pz a
 have g:=wG (m:=m) (ng:=ng) (l:=l) a;obtain⟨c,i⟩:=nV (m:=m) (ng:=ng) h (K:=(bl s:Int)-53) oM;have o:(bl s:Int)-53+j=(bl n:Int)-53:=oM;rw[o]at c i;have p:nR m ng s l (e+j)=nR m ng n l0 e:=by unfold nR;rw[c];omega
 have q:53<=bl (eU m ng s l ((bl s:Int)-53)):=jz.2 g.1;unfold az;by_cases d:nR m ng s l (e+j)< -1022
 .have b:0< -1074-(e+j):=by unfold nR at d;omega
  obtain⟨d1,d2⟩:=nV (m:=m) (ng:=ng) h b;rw[show-1074-(e+(j:Int))+j=-1074-e from by omega]at d1 d2;rw[d1,d2,p,c,i]
 rw[c,i,p];rw[p]at d;by_cases f:1024<=nR m ng n l0 e
 .rw[ZC f,ZC f]
 rw[Zr f,Zr f,Zr d,Zr d]
def vz{m:Nat}:eU m ng (n*2^j) false (K+j)=eU m ng n false K/\gV (n*2^j) false (K+j)=gV n false K:=by
 by_cases hK:0<K
 .have h:dh (n*2^j) false j n false:=⟨by rw[abT _ (Zy j)],by rw[abS];rfl⟩;obtain⟨c,d⟩:=nV (m:=m) (ng:=ng) h hK;exact⟨c.symm,d.symm⟩
 by_cases a:K+j<=0
 .rw[me a,me oM,mV a,mV oM,Z3,<-ZD,show j+(-(K+(j:Int))).toNat=(-K).toNat from by omega];exact⟨rfl,rfl⟩
 obtain⟨k,f⟩:∃k:Nat,K+j=k:=⟨(K+j).toNat,oM⟩;obtain⟨i,g⟩:∃i:Nat,(-K).toNat=i:=⟨_,rfl⟩;have p:j=k+i:=oM;have b:0<k:=oM;rw[f,pq b,mU b,me oM,mV oM,g];have e1:n*2^j=n*2^i*2^k:=by rw[p,ZD,Z1 (2^k),Z3]
 have e2:n*2^j=n*2^i*2*2^(k-1):=by
  rw[e1,Z3 (n*2^i) 2];congr 1;rw[<-Nat.pow_succ'];congr 1;omega
 have q:n*2^j/2^k=n*2^i:=by rw[e1,abT _ (Zy k)]
 have r:jB (n*2^j) k=false:=by unfold jB;rw[e2,abT _ (Zy _),abS];rfl
 have t:gC (n*2^j) k=false:=by unfold gC;rw[e2,abS];rfl
 rw[r,t,q];have u:∀o,upB m ng o false (false||false)=false:=by intro o;unfold upB;cases o<;>cases ng<;>simp
 rw[u];exact⟨rfl,rfl⟩
def kC{m:Nat}(f:n≠0):az m ng (n*2^j) false e=az m ng n false (e+j):=by
 have c:bl (n*2^j)=bl n+j:=bO f;obtain⟨a,d⟩:=vz (m:=m) (ng:=ng) (n:=n) (j:=j) (K:=(bl n:Int)-53);have b:(bl n:Int)-53+j=((bl n+j:Nat):Int)-53:=oM;rw[b]at a d;obtain⟨d1,d2⟩:=vz (m:=m) (ng:=ng) (n:=n) (j:=j) (K:=-1074-(e+j));rw[show-1074-(e+(j:Int))+j=-1074-e from by omega]at d1 d2;have g:nR m ng (n*2^j) false e=nR m ng n false (e+j):=by unfold nR;rw[c,a];omega
 unfold az;rw[g,c,a,d,d1,d2]
def lM{m:Nat}{wh:Bool}(a:54<=bl n):az m ng (mk2 n wh) false (e-1)=az m ng n (!wh) e:=by
 have h:dh (mk2 n wh) false 1 n (!wh):=by
  unfold mk2 dh;rw[acA];cases wh
  .rw[Zr dC];exact⟨oM,by rw[show(n*2+1)%2=1 from by omega];rfl⟩
  rw[ZC rfl];exact⟨oM,by rw[show(n*2+0)%2=0 from by omega];rfl⟩
 have:=dS (m:=m) (ng:=ng) (e:=e-1) h a;rw[show e-1+((1:Nat):Int)=e from by omega]at this;exact this.symm
def val(n:Nat)(e:Int):Nat:=n*2^(e+5000).toNat
def nX{m:Nat}(a:n≠0)(b:-5000<=e):az m ng n false e=az m ng (val n e) false (-5000):=by
 unfold val;rw[kC a];congr 1;omega
def FK{m V:Nat}(b:-5000<=e)(h:dh V l0 (e+5000).toNat s l)(a:54<=bl s):az m ng s l e=az m ng V l0 (-5000):=by
 have:=dS (m:=m) (ng:=ng) (e:=-5000) h a;rw[show-5000+(((e+5000).toNat:Nat):Int)=e from by omega]at this;exact this
end
section
variable{R X Y a b j n r s:Nat}{e:Int}{l l0 ng:Bool}
def dh.trans{t i:Nat}{l':Bool}(d:dh n l0 i s l)(c:dh s l j t l'):dh n l0 (i+j) t l':=by
 obtain⟨rfl,rfl⟩:=d;obtain⟨rfl,rfl⟩:=c;refine⟨by rw[ZD,Z2],?_⟩;rw[ZD,adL,<-ac2];congr 1;have k:=Zy i;generalize n%2^i=t;generalize n/2^i%2^j=r;rw[abG,abi,ZU,ZU,ZU];constructor
 .intro h m;have d:t=0:=oM;have c:2^i*r=0:=oM;rcases aa7.1 c with g|g
  .omega
  rcases h with h|h<;>contradiction
 intro h;by_cases f:r=0
 .subst f;exact .inr (by rw[aca]at h;omega)
 exact .inl f
def dh.scaled(n j:Nat):dh (n*2^j) false j n false:=⟨by rw[abT _ (Zy j)],by rw[abS];rfl⟩
def dh.exact_of(h:dh n l0 j s false):n=s*2^j/\l0=false:=by
 obtain⟨rfl,h⟩:=h;have c:=h.symm;rw[aaP,aan]at c;have:=abc n (2^j);refine⟨?_,c.2⟩;rw[Z1];omega
def dh.frac(q:0<Y)(p j:Nat):dh (X*2^(p+j)/Y) (decide (X*2^(p+j)%Y≠0)) j (X*2^p/Y) (decide (X*2^p%Y≠0)):=by
 have k:=Zy j;have e:X*2^(p+j)=X*2^p*2^j:=by rw[ZD,Z3]
 have m:X*2^(p+j)/Y/2^j=X*2^p/Y:=by rw[Z2,e,abD _ _ k]
 have c:X*2^(p+j)%(Y*2^j)=X*2^p%Y*2^j:=by rw[e,acI]
 rw[adL]at c;refine⟨m.symm,?_⟩;generalize X*2^(p+j)%Y=t at*;generalize X*2^(p+j)/Y%2^j=r at*;generalize X*2^p%Y=u at*;rw[abG,abi,ZU,ZU,ZU];constructor
 .intro d;by_cases g:r=0
  .refine .inr λo=>d ?_;subst g o;rw[aca]at c;rcases aa7.1 (show u*2^j=0 by omega)with f|f<;>omega
  exact .inl g
 intro h d;subst d;rw[abM]at c;have f:Y*r=0:=oM;rcases aa7.1 f with i|i
 .omega
 rcases h with h|h
 .exact h i
 omega
def pA{p:Nat}(c:X≠0)(d:0<Y):bl X+p<=bl (X*2^p/Y)+bl Y:=by
 have f:2^(bl X-1+p)<=X*2^p:=by rw[ZD];exact Z9 _ (fB c)
 have g:=aN Y;have i:=ey.2 c;by_cases k:bl Y<=bl X-1+p
 .have h:2^(bl X-1+p-bl Y)<=X*2^p/Y:=by
   rw[aa9 d];refine Zz (abz _ (abw g)) ?_;rw[<-ZD,show bl X-1+p-bl Y+bl Y=bl X-1+p from by omega];exact f
  have:=jz.2 h;omega
 omega
def GQ{m p1 p2:Nat}{t:Int}(c:0<Y)(d:54<=bl (X*2^p1/Y))(f:54<=bl (X*2^p2/Y)):
 az m ng (X*2^p1/Y) (decide (X*2^p1%Y≠0)) (t-p1)=az m ng (X*2^p2/Y) (decide (X*2^p2%Y≠0)) (t-p2):=by
 rcases Nat.le_total p1 p2 with h|h
 .obtain⟨j,rfl⟩:∃j,p2=p1+j:=⟨p2-p1,oM⟩;have:=dS (m:=m) (ng:=ng) (e:=t-((p1+j:Nat):Int)) (dh.frac (X:=X) c p1 j) d;rw[show t-((p1+j:Nat):Int)+j=t-p1 from by omega]at this;exact this
 obtain⟨j,rfl⟩:∃j,p1=p2+j:=⟨p1-p2,oM⟩;have:=dS (m:=m) (ng:=ng) (e:=t-((p2+j:Nat):Int)) (dh.frac (X:=X) c p2 j) f;rw[show t-((p2+j:Nat):Int)+j=t-p2 from by omega]at this;exact this.symm
def Gc{m d c:Nat}{f g:Int}(q:a≠0)(u:0<b)(y:bl b<=53)(C:bl (a*2^d)=53)(D:bl (b*2^c)=53):
 az m ng (a*2^d*2^150/(b*2^c)) (decide (a*2^d*2^150%(b*2^c)≠0)) (f-d-150-(g-c))=
 az m ng (mk2 (a*2^120/b) (decide (a*2^120%b=0))) false (f-120-g-1):=by
 have z:=bO (n:=b) (k:=c) oM;have E:=ey.2 (show b≠0 by omega);have A:=bO (n:=a) (k:=d) q;have F:=ey.2 q;have v:=Zy c;obtain⟨p,G⟩:∃p,d+150=p+c:=⟨d+150-c,oM⟩;have e1:a*2^d*2^150=a*2^p*2^c:=by rw[Z3,<-ZD,G,ZD,Z3]
 have H:decide (a*2^p*2^c%(b*2^c)≠0)=decide (a*2^p%b≠0):=by
  rw[acI,abG,ZU,ZU];constructor
  .intro h w;rw[w,abM]at h;exact h rfl
  intro h w;rcases aa7.1 w with B|B
  .exact h B
  omega
 have f1:=pA (X:=a) (p:=p) q u;have f2:=pA (X:=a) (p:=120) q u;rw[e1,abD _ _ v,H];have i:54<=bl (a*2^120/b):=oM;have x:=lM (m:=m) (ng:=ng) (wh:=decide (a*2^120%b=0)) (e:=f-120-g) i;have o:(!decide (a*2^120%b=0))=decide (a*2^120%b≠0):=by rw[aez]
 rw[x,o];have:=GQ (m:=m) (ng:=ng) (t:=f-g) (p1:=p) (p2:=120) u oM i;rw[show f-(d:Int)-150-(g-c)=f-g-p from by omega,show f-120-g=f-g-((120:Nat):Int)from by omega];exact this
def bA(n r:Nat):Prop:=r*r<=n/\n<(r+1)*(r+1)
def H0(h:a*a<(b+1)*(b+1)):a<=b:=by
 rcases aa8 b a with c|c
 .exact absurd (aa0 (show b+1<=a from c) (show b+1<=a from c)) oM
 exact c
def bA.uniq(c:bA n r)(d:bA n s):r=s:=
 ab7 (H0 (aam c.1 d.2)) (H0 (aam d.1 c.2))
def pR(r j:Nat):r*2^j*(r*2^j)=r*r*2^(2*j):=by
 rw[show 2*j=j+j from by omega,ZD];simp only[Z3,abo,Z1]
def dh.root(h:dh n l0 (2*j) s l)(i:bA n R)(m:bA s r):dh R (decide (R*R≠n)||l0) j r (decide (r*r≠s)||l):=by
 obtain⟨o,rfl⟩:=h;have p:=Zy j;have f:=Zy (2*j);have g:=abc n (2^(2*j));have t:=aa1 n f;rw[<-o]at g;have u:r*2^j<=R:=by
  apply H0;rw[pR];have:=Z9 (2^(2*j)) m.1;rw[Z1 s]at this;exact aam oM i.2
 have v:R<(r+1)*2^j:=by
  rcases aa8 R ((r+1)*2^j)with c|c
  .exact c
  have d:=aa0 c c;rw[pR]at d;have w:=Z9 (2^(2*j)) (show s+1<=(r+1)*(r+1)from m.2);rw[abm,aa5,Z1 s]at w;have:=i.1;omega
 have q:R/2^j=r:=by
  apply ab7
  .exact Nat.le_of_lt_succ ((Z4 p).2 v)
  exact(aa9 p).2 u
 refine⟨q.symm,?_⟩;rw[<-ac2,<-ac2];congr 1;have k:=abc R (2^j);rw[q]at k;rw[abG,abi,abi,ZU,ZU,ZU,ZU];constructor
 .intro h;by_cases c:R%2^j=0
  .refine .inr λd=>?_;(have e:R=r*2^j:=by rw[Z1];omega);rw[e,pR]at d;(have e2:n%2^(2*j)=0:=by rw[<-d];exact abS _ _);(have x:s=r*r:=by rw[o,<-d,abT _ f]);rcases h with h|h
   .exact h x.symm
   exact h e2
  exact .inl c
 intro h;by_cases c:r*r=s
 .refine .inr λd=>?_;rw[d,Z8,<-c]at g;have y:bA n (r*2^j):=by
   refine⟨by rw[pR,Z1];omega,?_⟩;have:=aaZ (show r*2^j<r*2^j+1 by omega) (show r*2^j<r*2^j+1 by omega);rw[pR,Z1 (r*r)]at this;omega
  have e:=i.uniq y;rcases h with h|h
  .exact h (by rw[e];exact abS _ _)
  exact h (by rw[e,pR,Z1];omega)
 exact .inl c
def EK(h:bA n r):bl n<=2*bl r:=by
 rw[br,show 2*bl r=bl r+bl r from by omega,ZD];have:=aN r;exact ZB h.2 (aa0 this this)
def jY{m:Nat}(h:dh n l0 (2*j) s l)(d:bA n R)(c:bA s r)(f:108<=bl s):
 az m ng r (decide (r*r≠s)||l) (e+j)=az m ng R (decide (R*R≠n)||l0) e:=by
 have:=EK c;exact dS (h.root d c) oM
def kr(n r:Nat):Prop:=r*(r*r)<=n/\n<(r+1)*((r+1)*(r+1))
def rZ(h:a<=b):a*(a*a)<=b*(b*b):=aa0 h (aa0 h h)
def KM(h:a*(a*a)<(b+1)*((b+1)*(b+1))):a<=b:=by
 rcases aa8 b a with c|c
 .exact absurd (rZ (show b+1<=a from c)) oM
 exact c
def kr.uniq(c:kr n r)(d:kr n s):r=s:=
 ab7 (KM (aam c.1 d.2)) (KM (aam d.1 c.2))
def qE(r j:Nat):r*2^j*(r*2^j*(r*2^j))=r*(r*r)*2^(3*j):=by
 rw[show 3*j=j+(j+j)from by omega,ZD,ZD];simp only[Z3,abo,Z1]
def dh.cb(h:dh n l0 (3*j) s l)(i:kr n R)(m:kr s r):dh R (decide (R*(R*R)≠n)||l0) j r (decide (r*(r*r)≠s)||l):=by
 obtain⟨o,rfl⟩:=h;have p:=Zy j;have f:=Zy (3*j);have g:=abc n (2^(3*j));have t:=aa1 n f;rw[<-o]at g;have u:r*2^j<=R:=by
  apply KM;rw[qE];have:=Z9 (2^(3*j)) m.1;rw[Z1 s]at this;exact aam oM i.2
 have v:R<(r+1)*2^j:=by
  rcases aa8 R ((r+1)*2^j)with c|c
  .exact c
  have d:=rZ c;rw[qE]at d;have w:=Z9 (2^(3*j)) (show s+1<=(r+1)*((r+1)*(r+1))from m.2);rw[abm,aa5,Z1 s]at w;have:=i.1;omega
 have q:R/2^j=r:=by
  apply ab7
  .exact Nat.le_of_lt_succ ((Z4 p).2 v)
  exact(aa9 p).2 u
 refine⟨q.symm,?_⟩;rw[<-ac2,<-ac2];congr 1;have k:=abc R (2^j);rw[q]at k;rw[abG,abi,abi,ZU,ZU,ZU,ZU];constructor
 .intro h;by_cases c:R%2^j=0
  .refine .inr λd=>?_;(have e:R=r*2^j:=by rw[Z1];omega);rw[e,qE]at d;(have e2:n%2^(3*j)=0:=by rw[<-d];exact abS _ _);(have x:s=r*(r*r):=by rw[o,<-d,abT _ f]);rcases h with h|h
   .exact h x.symm
   exact h e2
  exact .inl c
 intro h;by_cases c:r*(r*r)=s
 .refine .inr λd=>?_;rw[d,Z8,<-c]at g;have y:kr n (r*2^j):=by
   refine⟨by rw[qE,Z1];omega,?_⟩;have z:r*2^j*(r*2^j)<(r*2^j+1)*(r*2^j+1):=aaZ oM oM;have:=aaZ (show r*2^j<r*2^j+1 by omega) z;rw[qE,Z1 (r*(r*r))]at this;omega
  have e:=i.uniq y;rcases h with h|h
  .exact h (by rw[e];exact abS _ _)
  exact h (by rw[e,qE,Z1];omega)
 exact .inl c
def OP(h:kr n r):bl n<=3*bl r:=by
 rw[br,show 3*bl r=bl r+(bl r+bl r)from by omega,ZD,ZD];exact ZB h.2 (rZ (show r+1<=_ from aN r))
def EF{m:Nat}(h:dh n l0 (3*j) s l)(d:kr n R)(c:kr s r)(f:160<=bl s):
 az m ng r (decide (r*(r*r)≠s)||l) (e+j)=az m ng R (decide (R*(R*R)≠n)||l0) e:=by
 have:=OP c;exact dS (h.cb d c) oM
end
section
variable{a b n:Nat}{e e1 e2:Int}{n1 n2:Bool}{p:Bool×Nat}{r:Bool×Int×Nat×Bool}
def vl{k:Nat}(c:-5000<=e-k):val (n*2^k) (e-k)=val n e:=by
 unfold val;rw[Z3,<-ZD];congr 2;omega
def val_eq_zero:val n e=0↔n=0:=by
 unfold val;have:=Zy (e+5000).toNat;rw[aa7];omega
def fi(n1 n2:Bool)(a b:Nat):Bool×Nat:=if n1=n2 then(n1,a+b)else if a<b then(n2,b-a)else(n1,a-b)
@[irreducible]def gU(m:Nat)(n1 n2:Bool)(a b:Nat):Nat×Nat:=
 if(fi n1 n2 a b).2≠0 then az m (fi n1 n2 a b).1 (fi n1 n2 a b).2 false (-5000)
 else if a=0/\b=0/\n1=n2 then(aF n1,0)else(aF (decide (m=4)),0)
def fE(n1 n2:Bool)(A B:Nat)(E:Int)(l:Bool):Bool×Int×Nat×Bool:=
 if n1=n2 then(n1,E,A+B,l)else if A<B then(n2,E,B-A,false)else if l then(n1,E,A-B-1,true)else(n1,E,A-B,false)
def lU(b:Nat)(e2 E:Int):Nat:=if 0<E-e2 then b/2^(E-e2).toNat else b*2^(e2-E).toNat
def lS(b:Nat)(e2 E:Int):Bool:=if 0<E-e2 then decide (b%2^(E-e2).toNat≠0)else false
def lT(n1 n2:Bool)(a b:Nat)(e1 e2:Int):Bool×Int×Nat×Bool:=
 fE n1 n2 (a*2^(250-bl a)) (lU b e2 (e1-(250-bl a:Nat))) (e1-(250-bl a:Nat)) (lS b e2 (e1-(250-bl a:Nat)))
def rn(p:Bool×Nat)(r:Bool×Int×Nat×Bool):Prop:=dh p.2 false (r.2.1+5000).toNat r.2.2.1 r.2.2.2/\(r.2.2.2->200<=bl r.2.2.1)/\-4300<=r.2.1/\(p.2≠0->r.1=p.1)
def gy(s J:Nat):dh (s*2^J) false J s false:=dh.scaled s J
def Ew{A J t:Nat}(c:t<2^J):(A*2^J+t)/2^J=A/\(A*2^J+t)%2^J=t:=by
 constructor
 .rw[Z1,aeL (Zy J),aaG c];rfl
 rw[Z1,aeK,aac c]
def zE(I:a≠0)(la:bl a<=200)(K:bl b<=200)(L:-4000<=e1)(h2:-4000<=e2):
 rn (fi n1 n2 (val a e1) (val b e2)) (lT n1 n2 a b e1 e2):=by
 have M:bl (a*2^(250-bl a))=250:=by rw[bO I];omega
 have hA:2^249<=a*2^(250-bl a):=jz.1 oM;have N:=aN b;have O:b<2^200:=ZB N (aaa dC K);have l:val a e1=a*2^(250-bl a)*2^(e1-(250-bl a:Nat)+5000).toNat:=by
  unfold val;rw[Z3,<-ZD];congr 2;omega
 have q:-4300<=e1-(250-bl a:Nat):=oM;unfold lT;unfold lU lS;generalize R:a*2^(250-bl a)=A at*;generalize S:e1-((250-bl a:Nat):Int)=E at*;have D:(2:Nat)^249=2^200*2^49:=dC;have T:2<(2:Nat)^49:=dC;have k:∀s:Nat,A<=s+2^200->200<=bl s:=λs hs=>by
  have x:0<2^200:=Zy 200;generalize U:(2:Nat)^200=P at*;have V:P<=s:=by
   generalize(2:Nat)^49=Q at*;have W:P*3<=P*Q:=abz P oM;omega
  have X:(2:Nat)^199<=2^200:=aaa dC oM;have:199<bl s:=jz.2 (Zz X (by rw[U];exact V));omega
 obtain⟨J,j⟩:∃J:Nat,(E+5000).toNat=J:=⟨_,rfl⟩;rw[j]at l;have z:=Zy J;by_cases y:0<E-e2
 .rw[ZC y,ZC y];obtain⟨d,m⟩:∃d:Nat,(E-e2).toNat=d:=⟨_,rfl⟩;obtain⟨i,Y⟩:∃i:Nat,(e2+5000).toNat=i:=⟨_,rfl⟩;have v:J=d+i:=oM;rw[m];have F:b/2^d<=b:=aaM _ _;have Z:b/2^d+1<A:=by
   have x:0<2^200:=Zy 200;generalize(2:Nat)^200=P at*;generalize(2:Nat)^49=Q at*;have W:P*3<=P*Q:=abz P oM;omega
  have C:=abc b (2^d);have G:=aa1 b (Zy d);have o:val b e2=b/2^d*2^J+b%2^d*2^i:=by
   unfold val;rw[Y,v,ZD,<-Z3,<-abm];congr 1;rw[Z1 (b/2^d)];omega
  have ht:b%2^d*2^i<2^J:=by rw[v,ZD];exact aax G (Zy i)
  have H:b%2^d*2^i=0↔b%2^d=0:=by rw[aa7];have:=Zy i;omega
  have w:decide (b%2^d≠0)=decide (b%2^d*2^i≠0):=by
   rw[abG,ZU,ZU];exact(not_congr H).symm
  rw[l,o,w];generalize b%2^d*2^i=t at*;generalize b/2^d=B at*;clear H w G C;unfold fi fE;by_cases u:n1=n2
  .simp only[ZC u];have c:=Ew (A:=A+B) (J:=J) ht;rw[abm]at c;refine⟨⟨?_,?_⟩,λ_=>k (A+B) (show A<=A+B+2^200 by omega),q,λ_=>rfl⟩
   .show A+B=_;rw[j,<-abY];exact c.1.symm
   show _=(decide (_%2^(E+5000).toNat≠0)||false);rw[j,<-abY,c.2,aaW]
  have f:¬A*2^J<B*2^J+t:=by
   have:=Z9 (2^J) (show B+1<=A by omega);rw[abm]at this;omega
  simp only[Zr u,Zr f,Zr (show¬A<B by omega)];by_cases x:t=0
  .subst x;simp only[ne_eq,not_true_eq_false,decide_false,abI,acd];refine⟨?_,λh=>absurd h sM,q,λ_=>rfl⟩;show dh (A*2^J-(B*2^J+0)) false (E+5000).toNat (A-B) false;rw[j,adn,<-adJ];exact gy _ _
  simp only[ne_eq,x,not_false_eq_true,decide_true,aba];have c:=Ew (A:=A-B-1) (J:=J) (t:=2^J-t) oM;have e:A*2^J-(B*2^J+t)=(A-B-1)*2^J+(2^J-t):=by
   have L:A*2^J=(A-B-1)*2^J+B*2^J+2^J:=by
    rw[<-abm,<-adj];congr 1;omega
   omega
  refine⟨⟨?_,?_⟩,λ_=>k (A-B-1) (show A<=A-B-1+2^200 by omega),q,λ_=>rfl⟩
  .show A-B-1=_;rw[j];show _=(A*2^J-(B*2^J+t))/2^J;rw[e];exact c.1.symm
  show true=(decide ((A*2^J-(B*2^J+t))%2^(E+5000).toNat≠0)||false);rw[j,e,c.2,aaW,eq_comm,ZU];omega
 rw[Zr y,Zr y];obtain⟨d,m⟩:∃d:Nat,(e2-E).toNat=d:=⟨_,rfl⟩;have o:val b e2=b*2^d*2^J:=by
  unfold val;rw[Z3,<-ZD];congr 2;omega
 rw[l,o,m];generalize b*2^d=B at*;unfold fi fE;by_cases u:n1=n2
 .simp only[ZC u];refine⟨?_,λh=>absurd h sM,q,λ_=>rfl⟩;show dh (A*2^J+B*2^J) false (E+5000).toNat (A+B) false;rw[j,<-abm];exact gy _ _
 by_cases f:A<B
 .have g:A*2^J<B*2^J:=aax f z;simp only[Zr u,ZC f,ZC g];refine⟨?_,λh=>absurd h sM,q,λ_=>rfl⟩;show dh (B*2^J-A*2^J) false (E+5000).toNat (B-A) false;rw[j,<-adJ];exact gy _ _
 have g:¬A*2^J<B*2^J:=by
  have:=Z9 (2^J) (show B<=A by omega);omega
 simp only[Zr u,Zr f,Zr g,abI,acd];refine⟨?_,λh=>absurd h sM,q,λ_=>rfl⟩;show dh (A*2^J-B*2^J) false (E+5000).toNat (A-B) false;rw[j,<-adJ];exact gy _ _
def lv(n1 n2:Bool)(a b:Nat)(e1 e2:Int):Bool×Int×Nat×Bool:=
 if a=0 then(n2,e2,b,false)else if b=0 then(n1,e1,a,false)else if e1+bl a<e2+bl b then lT n2 n1 b a e2 e1 else lT n1 n2 a b e1 e2
def Fc:(fi n1 n2 a b).2=(fi n2 n1 b a).2/\((fi n1 n2 a b).2≠0->(fi n1 n2 a b).1=(fi n2 n1 b a).1):=by
 unfold fi;by_cases c:n1=n2
 .subst c;simp only[aba];exact⟨aco _ _,λ_=>trivial⟩
 have d:¬n2=n1:=λh=>c h.symm;simp only[Zr c,Zr d];rcases acM a b with h|h|h
 .simp only[ZC h,Zr (show¬b<a by omega)];exact⟨trivial,λ_=>trivial⟩
 .subst h;simp only[Zr (Nat.lt_irrefl _),adk];exact⟨trivial,λf=>absurd rfl f⟩
 simp only[ZC h,Zr (show¬a<b by omega)];exact⟨trivial,λ_=>trivial⟩
def zC(j:bl a<=200)(k:bl b<=200)(l:-4000<=e1)(m:-4000<=e2):
 rn (fi n1 n2 (val a e1) (val b e2)) (lv n1 n2 a b e1 e2):=by
 unfold lv;by_cases c:a=0
 .rw[ZC c];have f:val a e1=0:=val_eq_zero.2 c;rw[f];refine⟨?_,λh=>absurd h sM,by show-4300<=e2;omega,?_⟩
  ·(have e:(fi n1 n2 0 (val b e2)).2=val b e2:=by unfold fi;split;exact Z8 _;split;exact aeC _;show 0-_=_;omega);rw[e];exact gy _ _
  intro h;unfold fi at h⊢;split
  .rename_i g;exact g.symm
  rename_i g;rw[Zr g]at h;split
  .rfl
  rename_i o;rw[Zr o]at h;exact absurd (show 0-_=0 by omega) h
 rw[Zr c];by_cases d:b=0
 .rw[ZC d];have f:val b e2=0:=val_eq_zero.2 d;rw[f];refine⟨?_,λh=>absurd h sM,by show-4300<=e1;omega,?_⟩
  ·(have e:(fi n1 n2 (val a e1) 0).2=val a e1:=by unfold fi;split;rfl;rw[Zr oM];exact aeC _);rw[e];exact gy _ _
  intro _;unfold fi;split
  .rfl
  rw[Zr oM]
 rw[Zr d];split
 .obtain⟨q,s,t,u⟩:=zE (n1:=n2) (n2:=n1) d k j m l;have i:=Fc (n1:=n1) (n2:=n2) (a:=val a e1) (b:=val b e2);unfold rn;rw[i.1];exact⟨q,s,t,λh=>by rw[u h,i.2 (by rw[i.1];exact h)]⟩
 exact zE c j k l m
def rn.round{m:Nat}(h:rn p r)(f:p.2≠0):az m r.1 r.2.2.1 r.2.2.2 r.2.1=az m p.1 p.2 false (-5000):=by
 obtain⟨c,g,k,i⟩:=h;rw[i f];cases d:r.2.2.2 with
 |false=>
  rw[d]at c;obtain⟨e,_⟩:=c.exact_of;have j:r.2.2.1≠0:=λh=>f (by rw[e,h,abM]);rw[e,kC j];congr 1;omega
 |true=>
  rw[d]at c;exact FK oM c (by have:=g d;omega)
def rn.zero(h:rn p r):(r.2.2.1≠0\/r.2.2.2)↔p.2≠0:=by
 obtain⟨⟨d,f⟩,_⟩:=h;rw[d,f,aaW,ZU];have g:=abc p.2 (2^(r.2.1+5000).toNat);constructor
 .intro h i;rw[i,Nat.zero_div,aeA]at h;omega
 intro h;by_cases c:p.2/2^(r.2.1+5000).toNat=0
 .right;rw[c,aca]at g;omega
 exact .inl c
end
section
variable{R X a b k k2 r s x:Nat}{e h h2:Int}{g:Bool}
def xU(h:gS x=0):exN x=dM x/\exE x=-1074:=by unfold exN exE;rw[ZC h,ZC h];exact⟨rfl,rfl⟩
def xV(h:gS x≠0):exN x=dM x+4503599627370496/\exE x=(gS x:Int)-1075:=by unfold exN exE;rw[Zr h,Zr h];exact⟨rfl,rfl⟩
def M8(x:Nat):gS x<2048:=by unfold gS;omega
def dw(x:Nat):∃j:Nat,j<=53/\ay x=exN x*2^j/\bz x=exE x-j/\(exN x≠0->bl (ay x)=53):=by
 have d:=yi x;have f:=kA x;by_cases h:gS x=0
 .obtain⟨e1,e2⟩:=xU h;refine⟨53-bl (dM x),oM,?_,?_,λc=>?_⟩
  .unfold ay;rw[ZC h,e1]
  .unfold bz;rw[ZC h,e2];omega
  unfold ay;rw[ZC h];rw[e1]at c;rw[bO c];omega
 obtain⟨e1,e2⟩:=xV h;refine⟨0,oM,?_,?_,λ_=>?_⟩
 .unfold ay;rw[Zr h,e1];simp
 .unfold bz;rw[Zr h,e2];simp
 unfold ay;rw[Zr h];exact ri (k:=52) oM oM
def dU(x:Nat):bl (exN x)<=53:=br.2 (CX x)
def aL(x:Nat):-1074<=exE x/\exE x<=973:=by
 have:=M8 x;by_cases h:gS x=0
 .rw[(xU h).2];omega
 rw[(xV h).2];omega
def aV(x:Nat):-1127<=bz x/\bz x<=973:=by
 obtain⟨j,c,_,h,_⟩:=dw x;have:=aL x;omega
def dR:ay x=0↔exN x=0:=by
 obtain⟨j,_,h,_⟩:=dw x;have:=Zy j;rw[h,aa7];omega
def bC:af x=0↔exN x=0:=by
 have c:=kA x;have e1:x/4503599627370496%2048=gS x:=rfl;have e2:x%4503599627370496=dM x:=rfl;unfold af;rw[e1,e2];by_cases h:gS x=0
 .rw[ZC h,(xU h).1];split<;>omega
 rw[Zr h,(xV h).1];(repeat' split)<;>omega
def Jj{m:Nat}(f:exN a≠0)(l:exN b≠0):az m g (ay a*ay b) false (bz a+bz b)=az m g (exN a*exN b) false (exE a+exE b):=by
 obtain⟨j,_,c,h2,_⟩:=dw a;obtain⟨i,_,d,n,_⟩:=dw b;have e:ay a*ay b=exN a*exN b*2^(j+i):=by rw[c,d,ZD];simp only[Z3,abo,Z1]
 rw[e,kC (by rw[Ne,aa7];omega)];congr 1;omega
def Kq{m:Nat}(f:exN a≠0)(l:exN b≠0):
 az m g (ay a*2^150/ay b) (decide (ay a*2^150%ay b≠0)) (bz a-150-bz b)=
 az m g (mk2 (exN a*2^120/exN b) (decide (exN a*2^120%exN b=0))) false (exE a-120-exE b-1):=by
 obtain⟨j,_,n,h2,c⟩:=dw a;obtain⟨i,_,o,p,d⟩:=dw b;have c:=c f;have d:=d l;rw[n]at c⊢;rw[o]at d⊢;rw[h2,p];exact Gc f oM (dU b) c d
def ox(x:Nat):val (ay x) (bz x)=val (exN x) (exE x):=by
 obtain⟨j,d,c,h2,_⟩:=dw x;have:=aL x;rw[c,h2];exact vl oM
def val_mul:val (ay a*ay b) (bz a+bz b)=val (exN a*exN b) (exE a+exE b):=by
 obtain⟨j,_,c,h2,_⟩:=dw a;obtain⟨i,_,d,f,_⟩:=dw b;have:=aL a;have:=aL b;have e:ay a*ay b=exN a*exN b*2^(j+i):=by rw[c,d,ZD];simp only[Z3,abo,Z1]
 rw[e,show bz a+bz b=exE a+exE b-((j+i:Nat):Int)from by omega];exact vl oM
def ic{m:Nat}(n:2*h=e-k)(o:(k:Int)<=e+5000)(c:108<=bl (s*2^k))(d:bA (s*2^k) r)(f:bA (val s e) R):
 az m false r (decide (r*r≠s*2^k)) h=az m false R (decide (R*R≠val s e)) (-2500):=by
 obtain⟨j,p⟩:∃j:Nat,(e+5000-k).toNat=2*j:=⟨(e+5000-k).toNat/2,oM⟩;have i:val s e=s*2^k*2^(2*j):=by unfold val;rw[Z3,<-ZD];congr 2;omega
 have l:dh (val s e) false (2*j) (s*2^k) false:=by rw[i];exact dh.scaled _ _
 have:=jY (m:=m) (ng:=false) (e:=-2500) l f d c;rw[aaW,aaW]at this;rw[<-this];congr 1;omega
def jv(n:Nat):∃r,bA n r:=by
 induction n with
 |zero=>exact⟨0,Zo _,dC⟩
 |succ n c=>
  obtain⟨r,d,h2⟩:=c;by_cases h:(r+1)*(r+1)<=n+1
  .refine⟨r+1,h,?_⟩;have:=aaZ (show r+1<r+1+1 by omega) (show r+1<r+1+1 by omega);omega
  exact⟨r,oM,oM⟩
def qS{m V:Nat}{p l:Bool}(t:dh V p (e+5000).toNat s l)(I:-4500<=e)(u:s≠0)(z:l->120<=bl s)(A:2*h=e-k)(f:108<=bl s+k)(B:k<=254)(v:bA (s*2^k) r)(n:bA V R):
 az m false r (decide (r*r≠s*2^k)||l) h=az m false R (decide (R*R≠V)||p) (-2500):=by
 cases l with
 |false=>
  obtain⟨e1,e2⟩:=t.exact_of;subst e2;have C:val s e=V:=e1.symm;rw[<-C]at n⊢;rw[aaW,aaW];exact ic A oM (by rw[bO u];exact f) v n
 |true=>
  have D:=z rfl;obtain⟨c,i,o,J⟩:∃c i,k+i=2*c/\i<2:=⟨(k+1)/2,2*((k+1)/2)-k,oM,oM⟩;obtain⟨j,E⟩:∃j:Nat,(e+5000).toNat+i=2*j:=⟨((e+5000).toNat+i)/2,oM⟩;have F:dh s true i (s/2^i) true:=⟨rfl,by rw[Bool.or_true]⟩;have w:=t.trans F;rw[E]at w;have G:dh (s*2^k) true (2*c) (s/2^i) true:=by
   refine⟨?_,by rw[Bool.or_true]⟩;rw[<-o,ZD,Z1 (2^k),abD _ _ (Zy k)]
  have d:108<=bl (s/2^i):=by
   have H:2^(119-i)<=s/2^i:=by
    rw[aa9 (Zy i),<-ZD];exact Zz (aaa dC oM) (fB u)
   have:=jz.2 H;omega
  obtain⟨q,y⟩:=jv (s/2^i);have f1:=jY (m:=m) (ng:=false) (e:=h) G v y d;have f2:=jY (m:=m) (ng:=false) (e:=-2500) w n y d;rw[<-f1,<-f2];congr 1;omega
def jy{m n k:Nat}{ex:Bool}(hX:bA n X)(hb:108<=bl n):az m false (mk2 X (ex&&decide (X*X=n))) false (e-1)=az m false X (decide (X*X≠n)||!ex) e:=by
 have:=EK hX;rw[lM oM];congr 1;rw[Bool.not_and,Bool.or_comm,aez]
def B5{m:Nat}(ha:exN a≠0)(hk:2*h=-252-bz a-k)(hk2':k<=254)(hr:bA (2^252/ay a*2^k) r)
 (hk2:2*h2=-k2-exE a)(hk4:240+bl (exN a)<=k2)(hk5:k2<=300)(hX:bA (2^k2/exN a) X):
 az m false r (decide (r*r≠2^252/ay a*2^k)||decide (2^252%ay a≠0)) h=az m false (mk2 X (decide (2^k2%exN a=0)&&decide (X*X=2^k2/exN a))) false (h2-1):=by
 obtain⟨j,hj,h1,h3,h5⟩:=dw a;have hb:=aL a;have hs:=h5 ha;have hpj:=Zy j;have hap:0<exN a:=oM;have hsp:0<ay a:=by have:=mt dR.1 ha;omega
 obtain⟨P,hP⟩:∃P:Nat,(5000-exE a).toNat=P:=⟨_,rfl⟩;obtain⟨R,hR⟩:=jv (2^P/exN a);obtain⟨i,hi⟩:∃i:Nat,P=k2+2*i:=⟨(P-k2)/2,oM⟩;have f1:=dh.frac (X:=1) (Y:=exN a) hap k2 (2*i);rw[aa5,aa5,<-hi]at f1;have g1:=pA (X:=1) (Y:=exN a) (p:=k2) dC hap;have b1:bl 1=1:=ri (k:=0) dC dC;rw[aa5,b1]at g1;have r1:=jY (m:=m) (ng:=false) (e:=-2500) f1 hR hX oM;rw[jy (k:=k2) hX oM];have hnot:(!decide (2^k2%exN a=0))=decide (2^k2%exN a≠0):=by rw[aez]
 rw[hnot,show h2=-2500+(i:Int)from by omega,r1];have f2:=dh.frac (X:=1) (Y:=ay a) hsp 252 (-252-bz a+5000).toNat;have e1:252+(-252-bz a+5000).toNat=P+j:=oM;rw[aa5,aa5,e1]at f2;have e2:2^(P+j)/ay a=2^P/exN a:=by rw[h1,ZD,abD _ _ hpj]
 have e3:decide (2^(P+j)%ay a≠0)=decide (2^P%exN a≠0):=by
  rw[h1,ZD,acI,abG,ZU,ZU];constructor
  .intro h h2;rw[h2,abM]at h;exact h rfl
  intro h h2;rcases aa7.1 h2 with h4|h4
  .exact h h4
  omega
 rw[e2,e3]at f2;have g2:=pA (X:=1) (Y:=ay a) (p:=252) dC hsp;rw[aa5,b1]at g2;have hxb:=aV a;exact qS f2 oM (ey.1 oM) (λ_=>oM) hk oM hk2' hr hR
def G8{m:Nat}(f:exN a≠0)(C:3*h=bz a-k)(t:128<=k)(l:kr (ay a*2^k) r)(u:3*h2=exE a-k2)(v:190<=k2)(o:kr (exN a*2^k2) X):
 az m g r (decide (r*(r*r)≠ay a*2^k)) h=az m g (mk2 X (decide (X*(X*X)=exN a*2^k2))) false (h2-1):=by
 obtain⟨j,_,w,D,y⟩:=dw a;have E:=y f;have F:=bO (k:=k2) f;have z:=ey.2 f;have A:=OP o;have p:=bO (n:=ay a) (k:=k) (by rw[Ne,dR];exact f);rw[lM oM];have d:(!decide (X*(X*X)=exN a*2^k2))=decide (X*(X*X)≠exN a*2^k2):=by rw[aez]
 rw[d];have e:ay a*2^k=exN a*2^(j+k):=by rw[w,ZD,Z3]
 rw[e]at l p⊢;rcases Nat.le_total (j+k) k2 with B|B
 .obtain⟨i,q⟩:∃i,k2=j+k+3*i:=⟨(k2-(j+k))/3,oM⟩;have c:dh (exN a*2^k2) false (3*i) (exN a*2^(j+k)) false:=by rw[q,ZD,<-Z3];exact dh.scaled _ _
  have:=EF (m:=m) (ng:=g) (e:=h2) c o l oM;rw[aaW,aaW]at this;rw[<-this];congr 1;omega
 obtain⟨i,q⟩:∃i,j+k=k2+3*i:=⟨(j+k-k2)/3,oM⟩;have c:dh (exN a*2^(j+k)) false (3*i) (exN a*2^k2) false:=by rw[q,ZD,<-Z3];exact dh.scaled _ _
 have:=EF (m:=m) (ng:=g) (e:=h) c l o oM;rw[aaW,aaW]at this;rw[<-this];congr 1;omega
end
section
variable{x:Nat}
def yn(a b:Int):Na .and .u64 a b=IntKind.u64.wrap ((BitVec.ofInt 64 a&&&BitVec.ofInt 64 b).toNat:Int):=rfl
def yj(a b:Int):Na .xor .u64 a b=IntKind.u64.wrap ((BitVec.ofInt 64 a^^^BitVec.ofInt 64 b).toNat:Int):=rfl
def mP(x:Nat)(a:U64 x):(BitVec.ofInt 64 (x:Int)).toNat=x:=by
 rw[acR,ada];exact aac a
def u64_and_nat(x y:Nat)(b:U64 x)(a:U64 y):Na .and .u64 (x:Int) (y:Int)=((x&&&y:Nat):Int):=by
 have h:x&&&y<2^64:=Nat.and_lt_two_pow x a;rw[yn,adz,mP x b,mP y a,ZV];omega
def u64_xor_nat(x y:Nat)(a:U64 x)(b:U64 y):Na .xor .u64 (x:Int) (y:Int)=((x^^^y:Nat):Int):=by
 have h:x^^^y<2^64:=ad1 a b;rw[yj,BitVec.toNat_xor,mP x a,mP y b,ZV];omega
def xc:U64 9223372036854775808:=by unfold U64;decide
def qV(a:U64 x):x.testBit 63=aE x:=by
 have h:=a.out;unfold aE;rw[Nat.testBit_eq_decide_div_mod_eq];rw[abG,ZU,ZU];rw[show(2:Nat)^63=9223372036854775808 from by decide];omega
def NP(n:Nat):n&&&2^63=if n.testBit 63 then 2^63 else 0:=by
 apply adN;intro j;rw[Nat.testBit_and,acv];by_cases h:63=j
 .subst h;cases a:n.testBit 63
  .rw[Zr dC,Nat.zero_testBit];rfl
  rw[ZC rfl,acv];rfl
 rw[Zv h,Bool.and_false];split
 .rw[acv,Zv h]
 rw[Nat.zero_testBit]
def jP{y:Nat}(a:U64 x)(b:U64 y):Na .and .u64 (Na .xor .u64 (x:Int) (y:Int)) 9223372036854775808=(aF (aE x !=aE y):Nat):=by
 have c:U64 (x^^^y):=ad1 (n:=64) a b;have:=u64_and_nat (x^^^y) 9223372036854775808 c xc;rw[u64_xor_nat x y a b];rw[show((9223372036854775808:Nat):Int)=9223372036854775808 from rfl]at this;rw[this,show(9223372036854775808:Nat)=2^63 from by decide,NP,aeI,qV a,qV b];cases aE x<;>cases aE y<;>rfl
def jT(x:Nat):Nat:=x^^^9223372036854775808
def yC(a:U64 x):Na .xor .u64 (x:Int) 9223372036854775808=(jT x:Nat):=u64_xor_nat x _ a xc
def HC(a:U64 x):U64 (jT x):=ad1 (n:=64) a xc
@[irreducible]def j2(m a b:Nat):Nat×Nat:=
 if(af a=3/\af b=0)\/(af a=0/\af b=3)then(9221120237041090560,16)
 else if af a=3\/af b=3 then(aF (aE a !=aE b)+9218868437227405312,0)
 else if af a=0\/af b=0 then(aF (aE a !=aE b),0)
 else az m (aE a !=aE b) (exN a*exN b) false (exE a+exE b)
@[irreducible]def ko(m a b:Nat):Nat×Nat:=
 if(af a=3/\af b=3)\/(af a=0/\af b=0)then(9221120237041090560,16)
 else if af a=3 then(aF (aE a !=aE b)+9218868437227405312,0)
 else if af b=3\/af a=0 then(aF (aE a !=aE b),0)
 else if af b=0 then(aF (aE a !=aE b)+9218868437227405312,8)
 else az m (aE a !=aE b) (mk2 (exN a*2^120/exN b) (decide (exN a*2^120%exN b=0))) false (exE a-120-exE b-1)
@[irreducible]def jO(m a b:Nat):Nat×Nat:=
 if af a=3/\af b=3/\a≠b then(9221120237041090560,16)
 else if af a=3 then(a,0)
 else if af b=3 then(b,0)
 else gU m (aE a) (aE b) (val (exN a) (exE a)) (val (exN b) (exE b))
@[irreducible]def kj(m a b c:Nat):Nat×Nat:=
 if(af a=3/\af b=0)\/(af a=0/\af b=3)then(9221120237041090560,16)
 else if af a=3\/af b=3 then jO m (aF (aE a !=aE b)+9218868437227405312) c
 else if af c=3 then(c,0)
 else gU m (aE a !=aE b) (aE c) (val (exN a*exN b) (exE a+exE b)) (val (exN c) (exE c))
end
section
variable{a r x:Nat}
def rI(b:U64 x)(h:r<64):U64 (sH x r):=xp b h
def dN{y:Nat}(b:U64 y)(h:r<64):U64 (sLH x y r):=by unfold sLH;exact eJ b h
section
variable{a r:Nat}(ha:au a)(h0:0<r)(hr:r<64)
include ha h0 hr
def oG:a/2^r=sLH (wd 1 a) (wd 0 a) (64-r)+18446744073709551616*sLH (wd 2 a) (wd 1 a) (64-r)+340282366920938463463374607431768211456*sLH (wd 3 a) (wd 2 a) (64-r)+6277101735386680763835789423207666416102355444464034512896*sH (wd 3 a) (64-r):=by
 have b:64-r<64:=oM;have e:=oS (p:=2^(64-r)) ha;rw[dc (x:=wd 0 a) b,dc (x:=wd 1 a) b,dc (x:=wd 2 a) b,dc (x:=wd 3 a) b]at e;have c:=ju (wd 0 a) (64-r);have e2:a/2^r=a*2^(64-r)/18446744073709551616:=by
  rw[<-jS hr,abD _ _ (Zy _)]
 rw[e2,e];unfold sLH;omega
def Ri:W4 (a/2^(0+r))=.agg #[iU (sLH (wd 1 a) (wd 0 a) (64-r)),iU (sLH (wd 2 a) (wd 1 a) (64-r)),iU (sLH (wd 3 a) (wd 2 a) (64-r)),iU (sH (wd 3 a) (64-r))]:=by
 refine cE (dN (ax _ _) oM) (dN (ax _ _) oM) (dN (ax _ _) oM) (rI (ax _ _) oM) ?_;rw[Z8,oG ha h0 hr];rfl
def Rh:W4 (a/2^(64+r))=.agg #[iU (sLH (wd 2 a) (wd 1 a) (64-r)),iU (sLH (wd 3 a) (wd 2 a) (64-r)),iU (sH (wd 3 a) (64-r)),iU 0]:=by
 have b:=(dN (x:=wd 1 a) (y:=wd 0 a) (r:=64-r) (ax _ _) oM).out;refine cE (d:=0) (dN (ax _ _) oM) (dN (ax _ _) oM) (rI (ax _ _) oM) (show 0<18446744073709551616 by decide) ?_;rw[aco,ZD,<-Z2,oG ha h0 hr];unfold of4;omega
def Rg:W4 (a/2^(128+r))=.agg #[iU (sLH (wd 3 a) (wd 2 a) (64-r)),iU (sH (wd 3 a) (64-r)),iU 0,iU 0]:=by
 have b:=(dN (x:=wd 1 a) (y:=wd 0 a) (r:=64-r) (ax _ _) oM).out;have l1:=(dN (x:=wd 2 a) (y:=wd 1 a) (r:=64-r) (ax _ _) oM).out;refine cE (c:=0) (d:=0) (dN (ax _ _) oM) (rI (ax _ _) oM) (show 0<18446744073709551616 by decide) (show 0<18446744073709551616 by decide) ?_;rw[aco,ZD,<-Z2,oG ha h0 hr];unfold of4;omega
def Rf:W4 (a/2^(192+r))=.agg #[iU (sH (wd 3 a) (64-r)),iU 0,iU 0,iU 0]:=by
 have e:=(dN (x:=wd 1 a) (y:=wd 0 a) (r:=64-r) (ax _ _) oM).out;have l1:=(dN (x:=wd 2 a) (y:=wd 1 a) (r:=64-r) (ax _ _) oM).out;have l2:=(dN (x:=wd 3 a) (y:=wd 2 a) (r:=64-r) (ax _ _) oM).out;refine cE (b:=0) (c:=0) (d:=0) (rI (ax _ _) oM) (show 0<18446744073709551616 by decide) (show 0<18446744073709551616 by decide) (show 0<18446744073709551616 by decide) ?_;rw[aco,ZD,<-Z2,oG ha h0 hr];unfold of4;omega
end
def O9:W4 (a/2^(0+0))=.agg #[iU (wd 0 a),iU (wd 1 a),iU (wd 2 a),iU (wd 3 a)]:=by
 rw[show a/2^(0+0)=a from by simp]
section
variable{a:Nat}(ha:au a)
include ha
def O8:W4 (a/2^(64+0))=.agg #[iU (wd 1 a),iU (wd 2 a),iU (wd 3 a),iU 0]:=by
 refine cE (d:=0) (ax _ _) (ax _ _) (ax _ _) (show 0<18446744073709551616 by decide) ?_;have:=ha.out;rw[wd1,wd2,wd3];unfold of4;omega
def O7:W4 (a/2^(128+0))=.agg #[iU (wd 2 a),iU (wd 3 a),iU 0,iU 0]:=by
 refine cE (c:=0) (d:=0) (ax _ _) (ax _ _) (show 0<18446744073709551616 by decide) (show 0<18446744073709551616 by decide) ?_;have:=ha.out;rw[wd2,wd3];unfold of4;omega
def O6:W4 (a/2^(192+0))=.agg #[iU (wd 3 a),iU 0,iU 0,iU 0]:=by
 refine cE (b:=0) (c:=0) (d:=0) (ax _ _) (show 0<18446744073709551616 by decide) (show 0<18446744073709551616 by decide) (show 0<18446744073709551616 by decide) ?_;have:=ha.out;rw[wd3];unfold of4;omega
def LB{k:Nat}(h:256<=k):a/2^k=0:=
 aaG (ZB ha.out (aaa dC h))
def KY(k:Nat):(a/2^k*2^k)%2^256=a/2^k*2^k:=by
 have:=ha.out;exact aac (aam (Nat.div_mul_le_self a (2^k)) this)
end
def Bv:W4 0=.agg #[iU 0,iU 0,iU 0,iU 0]:=
 cE (a:=0) (b:=0) (c:=0) (d:=0) (show 0<18446744073709551616 by decide) (show 0<18446744073709551616 by decide) (show 0<18446744073709551616 by decide) (show 0<18446744073709551616 by decide) rfl
def EY{b:Nat}(c:au a)(d:au b)(e:wd 0 a=wd 0 b)(f:wd 1 a=wd 1 b)(g:wd 2 a=wd 2 b)(h:wd 3 a=wd 3 b):a=b:=by
 rw[<-tv c,<-tv d,e,f,g,h]
end
section
open Go.RowKit
variable{a:Nat}
def GX(d:Nat)(f g h i j k l m:Int)(w:AK):
 (Op.equalIn (d+2) 180 (.agg #[iU f,iU g,iU h,iU i]) (.agg #[iU j,iU k,iU l,iU m])).run prog w=
  .ok (f==j&&(g==k&&(h==l&&i==m))) w:=by
 have o:=underlying180;have p:(sizeOf 26).run prog w=.ok 1 w:=by kernel_rfl
 have n:∀(a b:Int),(Op.equalIn (d+1) 26 (iU a) (iU b)).run prog w=.ok (a==b) w:=λa b=>run_equalIn_int w d 26 .u64 .u64 a b underlying26;have q:∀a b c e:Int,(part 26 #[iU a,iU b,iU c,iU e] 0).run prog w=.ok (iU a) w:=λ_ _ _ _=>by kernel_rfl
 have p1:∀a b c e:Int,(part 26 #[iU a,iU b,iU c,iU e] 1).run prog w=.ok (iU b) w:=λ_ _ _ _=>by kernel_rfl
 have p2:∀a b c e:Int,(part 26 #[iU a,iU b,iU c,iU e] 2).run prog w=.ok (iU c) w:=λ_ _ _ _=>by kernel_rfl
 have r:∀a b c e:Int,(part 26 #[iU a,iU b,iU c,iU e] 3).run prog w=.ok (iU e) w:=λ_ _ _ _=>by kernel_rfl
 rw[Op.equalIn];simp only[Sem.run_bind,run_underlying o,Result.andThen_ok,p];by_cases s:f=j<;>by_cases t:g=k<;>by_cases u:h=l<;>by_cases v:i=m<;>
  simp[n,q,p1,p2,r,ab0,Std.Legacy.Range.size,List.range',s,t,u,v]
def ph{b:Nat}(d:au a)(e:au b)(w:AK):
 (Op.equalIn 10000 180 (.agg #[iU (wd 0 a),iU (wd 1 a),iU (wd 2 a),iU (wd 3 a)]) (.agg #[iU (wd 0 b),iU (wd 1 b),iU (wd 2 b),iU (wd 3 b)])).run prog w=
  .ok (decide (a=b)) w:=by
 rw[GX 9998];congr 1;by_cases h:a=b
 .subst h;simp
 simp only[h,decide_false];rw[<-Bool.not_eq_true];intro c;simp only[aab,abH,Int.natCast_inj]at c;exact h (EY d e c.1 c.2.1 c.2.2.1 c.2.2.2)
def mA(i:Nat):wd i 0=0:=by unfold wd;simp
def vm:au 0:=by unfold au;decide
def tS(b:au a)(w:AK):
 (Op.equalIn 10000 180 (.agg #[iU (wd 0 a),iU (wd 1 a),iU (wd 2 a),iU (wd 3 a)]) (.agg #[iU 0,iU 0,iU 0,iU 0])).run prog w=
  .ok (decide (a=0)) w:=by
 have:=ph b vm w;simp only[mA]at this;exact this
def AF(b:au a)(w:AK):
 (Op.equalIn 10000 180 (.agg #[iU 0,iU 0,iU 0,iU 0]) (.agg #[iU (wd 0 a),iU (wd 1 a),iU (wd 2 a),iU (wd 3 a)])).run prog w=
  .ok (decide (0=a)) w:=by
 have:=ph vm b w;simp only[mA]at this;exact this
end
section
open Go.RowKit
attribute[local go_sem] cV eR gM ax rG xY Ci Du
def QS(a:Nat)(c:au a)(k:Int)(f:0<=k)(g:k/64=0)(r:Nat)(h:k%64=r)(d:0<r)(b:r<64)(w:AK):
 Bf prog 145 #[W4 a,iI k] w λe w'=>e=.returned (W4 (a*2^(0+r)%2^256))/\Np w w w':=by
 have e:=Oo c b;rw[e];clear e;go_enter func145,ntmps145
 go_wp2
 refine aat 5 ?_;rw[Zu]
 go_wp2
 rw[Zu]
 go_wp2
 go_region
 go_wp2
 rw[Zu]
 go_wp2
 go_region
 go_wp2
 rw[Zu]
 go_wp2
 go_region
 go_wp2
 rw[Zu]
 go_wp2
 exact bR ⟨rfl,cB⟩
def QR(a:Nat)(b:au a)(k:Int)(c:0<=k)(d:k/64=0)(f:k%64=0)(w:AK):
 Bf prog 145 #[W4 a,iI k] w λe w'=>e=.returned (W4 (a*2^(0+0)%2^256))/\Np w w w':=by
 have e:=Oo b (r:=0) dC;rw[Ib (ax _ _),vB (ax _ _) (ax _ _),vB (ax _ _) (ax _ _),vB (ax _ _) (ax _ _)]at e;rw[e];clear e;go_enter func145,ntmps145
 go_wp2
 refine aat 5 ?_;rw[Zu]
 go_wp2
 rw[Zu]
 go_wp2
 rw[Zu]
 go_wp2
 rw[Zu]
 go_wp2
 rw[Zu]
 go_wp2
 exact bR ⟨rfl,cB⟩
def QQ(a:Nat)(c:au a)(k:Int)(f:0<=k)(g:k/64=1)(r:Nat)(h:k%64=r)(d:0<r)(b:r<64)(w:AK):
 Bf prog 145 #[W4 a,iI k] w λe w'=>e=.returned (W4 (a*2^(64+r)%2^256))/\Np w w w':=by
 have e:=On c b;rw[e];clear e;go_enter func145,ntmps145
 go_wp2
 refine aat 5 ?_;rw[Zu]
 go_wp2
 rw[Zu]
 go_wp2
 rw[Zu]
 go_wp2
 go_region
 go_wp2
 rw[Zu]
 go_wp2
 go_region
 go_wp2
 rw[Zu]
 go_wp2
 exact bR ⟨rfl,cB⟩
def QP(a:Nat)(b:au a)(k:Int)(c:0<=k)(d:k/64=1)(f:k%64=0)(w:AK):
 Bf prog 145 #[W4 a,iI k] w λe w'=>e=.returned (W4 (a*2^(64+0)%2^256))/\Np w w w':=by
 have e:=On b (r:=0) dC;rw[Ib (ax _ _),vB (ax _ _) (ax _ _),vB (ax _ _) (ax _ _)]at e;rw[e];clear e;go_enter func145,ntmps145
 go_wp2
 refine aat 5 ?_;rw[Zu]
 go_wp2
 rw[Zu]
 go_wp2
 rw[Zu]
 go_wp2
 rw[Zu]
 go_wp2
 rw[Zu]
 go_wp2
 exact bR ⟨rfl,cB⟩
def QO(a:Nat)(c:au a)(k:Int)(f:0<=k)(g:k/64=2)(r:Nat)(h:k%64=r)(d:0<r)(b:r<64)(w:AK):
 Bf prog 145 #[W4 a,iI k] w λe w'=>e=.returned (W4 (a*2^(128+r)%2^256))/\Np w w w':=by
 have e:=Om c b;rw[e];clear e;go_enter func145,ntmps145
 go_wp2
 refine aat 5 ?_;rw[Zu]
 go_wp2
 rw[Zu]
 go_wp2
 rw[Zu]
 go_wp2
 rw[Zu]
 go_wp2
 go_region
 go_wp2
 rw[Zu]
 go_wp2
 exact bR ⟨rfl,cB⟩
def QN(a:Nat)(b:au a)(k:Int)(c:0<=k)(d:k/64=2)(f:k%64=0)(w:AK):
 Bf prog 145 #[W4 a,iI k] w λe w'=>e=.returned (W4 (a*2^(128+0)%2^256))/\Np w w w':=by
 have e:=Om b (r:=0) dC;rw[Ib (ax _ _),vB (ax _ _) (ax _ _)]at e;rw[e];clear e;go_enter func145,ntmps145
 go_wp2
 refine aat 5 ?_;rw[Zu]
 go_wp2
 rw[Zu]
 go_wp2
 rw[Zu]
 go_wp2
 rw[Zu]
 go_wp2
 rw[Zu]
 go_wp2
 exact bR ⟨rfl,cB⟩
def QM(a:Nat)(c:au a)(k:Int)(f:0<=k)(g:k/64=3)(r:Nat)(h:k%64=r)(d:0<r)(b:r<64)(w:AK):
 Bf prog 145 #[W4 a,iI k] w λe w'=>e=.returned (W4 (a*2^(192+r)%2^256))/\Np w w w':=by
 have e:=Ol c b;rw[e];clear e;go_enter func145,ntmps145
 go_wp2
 refine aat 5 ?_;rw[Zu]
 go_wp2
 rw[Zu]
 go_wp2
 rw[Zu]
 go_wp2
 rw[Zu]
 go_wp2
 rw[Zu]
 go_wp2
 exact bR ⟨rfl,cB⟩
def QL(a:Nat)(b:au a)(k:Int)(c:0<=k)(d:k/64=3)(f:k%64=0)(w:AK):
 Bf prog 145 #[W4 a,iI k] w λe w'=>e=.returned (W4 (a*2^(192+0)%2^256))/\Np w w w':=by
 have e:=Ol b (r:=0) dC;rw[Ib (ax _ _)]at e;rw[e];clear e;go_enter func145,ntmps145
 go_wp2
 refine aat 5 ?_;rw[Zu]
 go_wp2
 rw[Zu]
 go_wp2
 rw[Zu]
 go_wp2
 rw[Zu]
 go_wp2
 rw[Zu]
 go_wp2
 exact bR ⟨rfl,cB⟩
def Oc(a:Nat)(k:Int)(h:256<=k)(b:k<4294967296)(w:AK):
 Bf prog 145 #[W4 a,iI k] w λe w'=>e=.returned (W4 (a*2^k.toNat%2^256))/\Np w w w':=by
 have e:=LD a (k:=k.toNat) oM;rw[e];clear e;go_enter func145,ntmps145
 go_wp2
 refine aat 5 ?_;rw[Zu]
 go_wp2
 rw[Zu]
 go_wp2
 rw[Zu]
 go_wp2
 rw[Zu]
 go_wp2
 rw[Zu]
 go_wp2
 exact bR ⟨rfl,cB⟩
def da(a:Nat)(c:au a)(k:Int)(d:0<=k)(h:k<4294967296)(w:AK):
 Bf prog 145 #[W4 a,iI k] w λe w'=>e=.returned (W4 (fO a k.toNat))/\Np w w w':=by
 rw[oH];by_cases i:256<=k
 .exact Oc a k i h w
 have f:k%64=((k%64).toNat:Int):=oM;have b:k/64=0\/k/64=1\/k/64=2\/k/64=3:=oM;by_cases g:k%64=0
 .rcases b with b|b|b|b
  .rw[show k.toNat=0+0 from by omega];exact QR a c k d b g w
  .rw[show k.toNat=64+0 from by omega];exact QP a c k d b g w
  .rw[show k.toNat=128+0 from by omega];exact QN a c k d b g w
  rw[show k.toNat=192+0 from by omega];exact QL a c k d b g w
 rcases b with b|b|b|b
 .rw[show k.toNat=0+(k%64).toNat from by omega];exact QS a c k d b _ f oM oM w
 .rw[show k.toNat=64+(k%64).toNat from by omega];exact QQ a c k d b _ f oM oM w
 .rw[show k.toNat=128+(k%64).toNat from by omega];exact QO a c k d b _ f oM oM w
 rw[show k.toNat=192+(k%64).toNat from by omega];exact QM a c k d b _ f oM oM w
end
section
open Go.RowKit
attribute[local go_sem] cV eR gM ax rG xY Ci Du Ks Mm ph Fi
def rj{W a:AK}(c:Np W W a):(∀b o,b<(W:Nat)->a (aD b o)=W (aD b o))/\(∀b o,b<(W:Nat)->a.frozen? (aD b o)=W.frozen? (aD b o)):=
 ⟨λb o h=>c.cell (p:=aD b o) h,λb o h=>c.frozen (p:=aD b o) h⟩
def QK(a:Nat)(j:au a)(k:Int)(g:0<=k)(l:k<256)(m:k/64=0)(r:Nat)(n:k%64=r)(h:0<r)(i:r<64)(b:Nat)(d:au b)(e:W4 b=.agg #[iU (sLH (wd 1 a) (wd 0 a) (64-r)),iU (sLH (wd 2 a) (wd 1 a) (64-r)),iU (sLH (wd 3 a) (wd 2 a) (64-r)),iU (sH (wd 3 a) (64-r))])(w:AK):
 Bf prog 160 #[W4 a,iI k] w λe w'=>e=.returned (.tuple #[W4 b,.bool (!decide (fO b k.toNat=a))])/\Np w w w':=by
 have c:=λW=>da b d k g oM W;rw[e]at c⊢;have C:=Zp c;clear c e d;go_enter func160,ntmps160
 go_wp2
 refine aat 5 ?_;rw[Zu]
 go_wp2
 go_region
 go_wp2
 rw[Zu]
 go_wp2
 go_region
 go_wp2
 rw[Zu]
 go_wp2
 go_region
 go_wp2
 rw[Zu]
 go_wp2
 rw[Zu]
 go_wp2
 go_region_held3(λw'=>cF w' w 0 (iU (wd 0 a))/\cF w' w 1 (iU (wd 1 a))/\cF w' w 2 (iU (wd 2 a))/\cF w' w 3 (iU (wd 3 a))/\cF w' (w+1+1) 0 (iU (sLH (wd 1 a) (wd 0 a) (64-r)))/\cF w' (w+1+1) 1 (iU (sLH (wd 2 a) (wd 1 a) (64-r)))/\cF w' (w+1+1) 2 (iU (sLH (wd 3 a) (wd 2 a) (64-r)))/\cF w' (w+1+1) 3 (iU (sH (wd 3 a) (64-r))))
  (first
   |(refine⟨?_,?_,?_,?_,?_,?_,?_,?_⟩<;>(go_simp;done))
   |go_keep
   |(refine⟨?_,?_,?_,?_,?_,?_,?_,?_⟩<;>(rw[f.cell sD];go_simp;done)))
  (first|(go_at_call 145;refine gB (C.out _) λo f=>?_;obtain⟨p,q⟩:=rj f))
 go_wp2
 exact bR ⟨rfl,cB⟩
def QJ(a:Nat)(h:au a)(k:Int)(g:0<=k)(i:k<256)(j:k/64=0)(l:k%64=0)(b:Nat)(d:au b)(e:W4 b=.agg #[iU (wd 0 a),iU (wd 1 a),iU (wd 2 a),iU (wd 3 a)])(w:AK):
 Bf prog 160 #[W4 a,iI k] w λe w'=>e=.returned (.tuple #[W4 b,.bool (!decide (fO b k.toNat=a))])/\Np w w w':=by
 have c:=λW=>da b d k g oM W;rw[e]at c⊢;have C:=Zp c;clear c e d;go_enter func160,ntmps160
 go_wp2
 refine aat 5 ?_;rw[Zu]
 go_wp2
 rw[Zu]
 go_wp2
 rw[Zu]
 go_wp2
 rw[Zu]
 go_wp2
 rw[Zu]
 go_wp2
 go_region_held3(λw'=>cF w' w 0 (iU (wd 0 a))/\cF w' w 1 (iU (wd 1 a))/\cF w' w 2 (iU (wd 2 a))/\cF w' w 3 (iU (wd 3 a))/\cF w' (w+1+1) 0 (iU (wd 0 a))/\cF w' (w+1+1) 1 (iU (wd 1 a))/\cF w' (w+1+1) 2 (iU (wd 2 a))/\cF w' (w+1+1) 3 (iU (wd 3 a)))
  (first
   |(refine⟨?_,?_,?_,?_,?_,?_,?_,?_⟩<;>(go_simp;done))
   |go_keep
   |(refine⟨?_,?_,?_,?_,?_,?_,?_,?_⟩<;>(rw[f.cell sD];go_simp;done)))
  (first|(go_at_call 145;refine gB (C.out _) λm f=>?_;obtain⟨n,o⟩:=rj f))
 go_wp2
 exact bR ⟨rfl,cB⟩
def QI(a:Nat)(j:au a)(k:Int)(g:0<=k)(l:k<256)(m:k/64=1)(r:Nat)(n:k%64=r)(h:0<r)(i:r<64)(b:Nat)(d:au b)(e:W4 b=.agg #[iU (sLH (wd 2 a) (wd 1 a) (64-r)),iU (sLH (wd 3 a) (wd 2 a) (64-r)),iU (sH (wd 3 a) (64-r)),iU 0])(w:AK):
 Bf prog 160 #[W4 a,iI k] w λe w'=>e=.returned (.tuple #[W4 b,.bool (!decide (fO b k.toNat=a))])/\Np w w w':=by
 have c:=λW=>da b d k g oM W;rw[e]at c⊢;have C:=Zp c;clear c e d;go_enter func160,ntmps160
 go_wp2
 refine aat 5 ?_;rw[Zu]
 go_wp2
 go_region
 go_wp2
 rw[Zu]
 go_wp2
 go_region
 go_wp2
 rw[Zu]
 go_wp2
 rw[Zu]
 go_wp2
 rw[Zu]
 go_wp2
 go_region_held3(λw'=>cF w' w 0 (iU (wd 0 a))/\cF w' w 1 (iU (wd 1 a))/\cF w' w 2 (iU (wd 2 a))/\cF w' w 3 (iU (wd 3 a))/\cF w' (w+1+1) 0 (iU (sLH (wd 2 a) (wd 1 a) (64-r)))/\cF w' (w+1+1) 1 (iU (sLH (wd 3 a) (wd 2 a) (64-r)))/\cF w' (w+1+1) 2 (iU (sH (wd 3 a) (64-r)))/\cF w' (w+1+1) 3 (iU 0))
  (first
   |(refine⟨?_,?_,?_,?_,?_,?_,?_,?_⟩<;>(go_simp;done))
   |go_keep
   |(refine⟨?_,?_,?_,?_,?_,?_,?_,?_⟩<;>(rw[f.cell sD];go_simp;done)))
  (first|(go_at_call 145;refine gB (C.out _) λo f=>?_;obtain⟨p,q⟩:=rj f))
 go_wp2
 exact bR ⟨rfl,cB⟩
def QH(a:Nat)(h:au a)(k:Int)(g:0<=k)(i:k<256)(j:k/64=1)(l:k%64=0)(b:Nat)(d:au b)(e:W4 b=.agg #[iU (wd 1 a),iU (wd 2 a),iU (wd 3 a),iU 0])(w:AK):
 Bf prog 160 #[W4 a,iI k] w λe w'=>e=.returned (.tuple #[W4 b,.bool (!decide (fO b k.toNat=a))])/\Np w w w':=by
 have c:=λW=>da b d k g oM W;rw[e]at c⊢;have C:=Zp c;clear c e d;go_enter func160,ntmps160
 go_wp2
 refine aat 5 ?_;rw[Zu]
 go_wp2
 rw[Zu]
 go_wp2
 rw[Zu]
 go_wp2
 rw[Zu]
 go_wp2
 rw[Zu]
 go_wp2
 go_region_held3(λw'=>cF w' w 0 (iU (wd 0 a))/\cF w' w 1 (iU (wd 1 a))/\cF w' w 2 (iU (wd 2 a))/\cF w' w 3 (iU (wd 3 a))/\cF w' (w+1+1) 0 (iU (wd 1 a))/\cF w' (w+1+1) 1 (iU (wd 2 a))/\cF w' (w+1+1) 2 (iU (wd 3 a))/\cF w' (w+1+1) 3 (iU 0))
  (first
   |(refine⟨?_,?_,?_,?_,?_,?_,?_,?_⟩<;>(go_simp;done))
   |go_keep
   |(refine⟨?_,?_,?_,?_,?_,?_,?_,?_⟩<;>(rw[f.cell sD];go_simp;done)))
  (first|(go_at_call 145;refine gB (C.out _) λm f=>?_;obtain⟨n,o⟩:=rj f))
 go_wp2
 exact bR ⟨rfl,cB⟩
def QG(a:Nat)(j:au a)(k:Int)(g:0<=k)(l:k<256)(m:k/64=2)(r:Nat)(n:k%64=r)(h:0<r)(i:r<64)(b:Nat)(d:au b)(e:W4 b=.agg #[iU (sLH (wd 3 a) (wd 2 a) (64-r)),iU (sH (wd 3 a) (64-r)),iU 0,iU 0])(w:AK):
 Bf prog 160 #[W4 a,iI k] w λe w'=>e=.returned (.tuple #[W4 b,.bool (!decide (fO b k.toNat=a))])/\Np w w w':=by
 have c:=λW=>da b d k g oM W;rw[e]at c⊢;have C:=Zp c;clear c e d;go_enter func160,ntmps160
 go_wp2
 refine aat 5 ?_;rw[Zu]
 go_wp2
 go_region
 go_wp2
 rw[Zu]
 go_wp2
 rw[Zu]
 go_wp2
 rw[Zu]
 go_wp2
 rw[Zu]
 go_wp2
 go_region_held3(λw'=>cF w' w 0 (iU (wd 0 a))/\cF w' w 1 (iU (wd 1 a))/\cF w' w 2 (iU (wd 2 a))/\cF w' w 3 (iU (wd 3 a))/\cF w' (w+1+1) 0 (iU (sLH (wd 3 a) (wd 2 a) (64-r)))/\cF w' (w+1+1) 1 (iU (sH (wd 3 a) (64-r)))/\cF w' (w+1+1) 2 (iU 0)/\cF w' (w+1+1) 3 (iU 0))
  (first
   |(refine⟨?_,?_,?_,?_,?_,?_,?_,?_⟩<;>(go_simp;done))
   |go_keep
   |(refine⟨?_,?_,?_,?_,?_,?_,?_,?_⟩<;>(rw[f.cell sD];go_simp;done)))
  (first|(go_at_call 145;refine gB (C.out _) λo f=>?_;obtain⟨p,q⟩:=rj f))
 go_wp2
 exact bR ⟨rfl,cB⟩
def QF(a:Nat)(h:au a)(k:Int)(g:0<=k)(i:k<256)(j:k/64=2)(l:k%64=0)(b:Nat)(d:au b)(e:W4 b=.agg #[iU (wd 2 a),iU (wd 3 a),iU 0,iU 0])(w:AK):
 Bf prog 160 #[W4 a,iI k] w λe w'=>e=.returned (.tuple #[W4 b,.bool (!decide (fO b k.toNat=a))])/\Np w w w':=by
 have c:=λW=>da b d k g oM W;rw[e]at c⊢;have C:=Zp c;clear c e d;go_enter func160,ntmps160
 go_wp2
 refine aat 5 ?_;rw[Zu]
 go_wp2
 rw[Zu]
 go_wp2
 rw[Zu]
 go_wp2
 rw[Zu]
 go_wp2
 rw[Zu]
 go_wp2
 go_region_held3(λw'=>cF w' w 0 (iU (wd 0 a))/\cF w' w 1 (iU (wd 1 a))/\cF w' w 2 (iU (wd 2 a))/\cF w' w 3 (iU (wd 3 a))/\cF w' (w+1+1) 0 (iU (wd 2 a))/\cF w' (w+1+1) 1 (iU (wd 3 a))/\cF w' (w+1+1) 2 (iU 0)/\cF w' (w+1+1) 3 (iU 0))
  (first
   |(refine⟨?_,?_,?_,?_,?_,?_,?_,?_⟩<;>(go_simp;done))
   |go_keep
   |(refine⟨?_,?_,?_,?_,?_,?_,?_,?_⟩<;>(rw[f.cell sD];go_simp;done)))
  (first|(go_at_call 145;refine gB (C.out _) λm f=>?_;obtain⟨n,o⟩:=rj f))
 go_wp2
 exact bR ⟨rfl,cB⟩
def QE(a:Nat)(j:au a)(k:Int)(g:0<=k)(l:k<256)(m:k/64=3)(r:Nat)(n:k%64=r)(h:0<r)(i:r<64)(b:Nat)(d:au b)(e:W4 b=.agg #[iU (sH (wd 3 a) (64-r)),iU 0,iU 0,iU 0])(w:AK):
 Bf prog 160 #[W4 a,iI k] w λe w'=>e=.returned (.tuple #[W4 b,.bool (!decide (fO b k.toNat=a))])/\Np w w w':=by
 have c:=λW=>da b d k g oM W;rw[e]at c⊢;have C:=Zp c;clear c e d;go_enter func160,ntmps160
 go_wp2
 refine aat 5 ?_;rw[Zu]
 go_wp2
 rw[Zu]
 go_wp2
 rw[Zu]
 go_wp2
 rw[Zu]
 go_wp2
 rw[Zu]
 go_wp2
 go_region_held3(λw'=>cF w' w 0 (iU (wd 0 a))/\cF w' w 1 (iU (wd 1 a))/\cF w' w 2 (iU (wd 2 a))/\cF w' w 3 (iU (wd 3 a))/\cF w' (w+1+1) 0 (iU (sH (wd 3 a) (64-r)))/\cF w' (w+1+1) 1 (iU 0)/\cF w' (w+1+1) 2 (iU 0)/\cF w' (w+1+1) 3 (iU 0))
  (first
   |(refine⟨?_,?_,?_,?_,?_,?_,?_,?_⟩<;>(go_simp;done))
   |go_keep
   |(refine⟨?_,?_,?_,?_,?_,?_,?_,?_⟩<;>(rw[f.cell sD];go_simp;done)))
  (first|(go_at_call 145;refine gB (C.out _) λo f=>?_;obtain⟨p,q⟩:=rj f))
 go_wp2
 exact bR ⟨rfl,cB⟩
def QD(a:Nat)(h:au a)(k:Int)(g:0<=k)(i:k<256)(j:k/64=3)(l:k%64=0)(b:Nat)(d:au b)(e:W4 b=.agg #[iU (wd 3 a),iU 0,iU 0,iU 0])(w:AK):
 Bf prog 160 #[W4 a,iI k] w λe w'=>e=.returned (.tuple #[W4 b,.bool (!decide (fO b k.toNat=a))])/\Np w w w':=by
 have c:=λW=>da b d k g oM W;rw[e]at c⊢;have C:=Zp c;clear c e d;go_enter func160,ntmps160
 go_wp2
 refine aat 5 ?_;rw[Zu]
 go_wp2
 rw[Zu]
 go_wp2
 rw[Zu]
 go_wp2
 rw[Zu]
 go_wp2
 rw[Zu]
 go_wp2
 go_region_held3(λw'=>cF w' w 0 (iU (wd 0 a))/\cF w' w 1 (iU (wd 1 a))/\cF w' w 2 (iU (wd 2 a))/\cF w' w 3 (iU (wd 3 a))/\cF w' (w+1+1) 0 (iU (wd 3 a))/\cF w' (w+1+1) 1 (iU 0)/\cF w' (w+1+1) 2 (iU 0)/\cF w' (w+1+1) 3 (iU 0))
  (first
   |(refine⟨?_,?_,?_,?_,?_,?_,?_,?_⟩<;>(go_simp;done))
   |go_keep
   |(refine⟨?_,?_,?_,?_,?_,?_,?_,?_⟩<;>(rw[f.cell sD];go_simp;done)))
  (first|(go_at_call 145;refine gB (C.out _) λm f=>?_;obtain⟨n,o⟩:=rj f))
 go_wp2
 exact bR ⟨rfl,cB⟩
def JB{a k:Nat}(b:au a):(!decide (fO (a/2^k) k=a))=decide (a%2^k≠0):=by
 rw[oH,KY b];have:=abN a (2^k);rw[Z1]at this;by_cases h:a%2^k=0
 .simp only[h,ne_eq,not_true_eq_false,decide_false,Bool.not_eq_false',ZU];omega
 simp only[h,ne_eq,not_false_eq_true,decide_true,aef,aan];omega
def Hk(a:Nat)(c:au a)(k:Int)(d:0<=k)(f:k<256)(w:AK):
 Bf prog 160 #[W4 a,iI k] w λe w'=>e=.returned (.tuple #[W4 (a/2^k.toNat),.bool (decide (a%2^k.toNat≠0))])/\Np w w w':=by
 have g:au (a/2^k.toNat):=aam (aaM _ _) c;rw[<-JB c];have h:k%64=((k%64).toNat:Int):=oM;have b:k/64=0\/k/64=1\/k/64=2\/k/64=3:=oM;by_cases i:k%64=0
 .rcases b with b|b|b|b
  .exact QJ a c k d f b i _ g (by rw[show k.toNat=0+0 from by omega];exact O9) w
  .exact QH a c k d f b i _ g (by rw[show k.toNat=64+0 from by omega];exact O8 c) w
  .exact QF a c k d f b i _ g (by rw[show k.toNat=128+0 from by omega];exact O7 c) w
  exact QD a c k d f b i _ g (by rw[show k.toNat=192+0 from by omega];exact O6 c) w
 rcases b with b|b|b|b
 .exact QK a c k d f b _ h oM oM _ g (by rw[show k.toNat=0+(k%64).toNat from by omega];exact Ri c oM oM) w
 .exact QI a c k d f b _ h oM oM _ g (by rw[show k.toNat=64+(k%64).toNat from by omega];exact Rh c oM oM) w
 .exact QG a c k d f b _ h oM oM _ g (by rw[show k.toNat=128+(k%64).toNat from by omega];exact Rg c oM oM) w
 exact QE a c k d f b _ h oM oM _ g (by rw[show k.toNat=192+(k%64).toNat from by omega];exact Rf c oM oM) w
end
section
open Go.RowKit
attribute[local go_sem] tS
def Ob(a:Nat)(b:au a)(k:Int)(c:256<=k)(w:AK):
 Bf prog 160 #[W4 a,iI k] w λe w'=>e=.returned (.tuple #[W4 0,.bool (decide (a≠0))])/\Np w w w':=by
 rw[Bv,show decide (a≠0)=!decide (a=0)from by by_cases h:a=0<;>simp[h]];go_enter func160,ntmps160
 go_wp2
 go_region
 go_wp2
 exact bR ⟨rfl,cB⟩
end
section
open Go.RowKit
def yu(a:Nat)(b:au a)(k:Int)(c:0<=k)(w:AK):
 Bf prog 160 #[W4 a,iI k] w λe w'=>e=.returned (.tuple #[W4 (a/2^k.toNat),.bool (decide (a%2^k.toNat≠0))])/\Np w w w':=by
 by_cases d:k<256
 .exact Hk a b k c d w
 have f:=LB b (k:=k.toNat) oM;have g:a%2^k.toNat=a:=aac (ZB b.out (aaa dC oM));rw[f,g];exact Ob a b k oM w
def Wt(a b c d:Int)(w:AK):(Instr.index 180 (.agg #[iU a,iU b,iU c,iU d]) (iI 0)).run prog w=.ok (iU a) w:=by kernel_rfl
def EA(m:Nat)(a:Bool)(q:Nat)(h l:Bool):Nat:=if upB m a (decide (q%2=1)) h l then(q+1)%18446744073709551616 else q
def Nu(ng l:Bool)(i:Int)(s:Nat)(d:au s)(k:Int)(m:Nat)(j:k<=0)(a:Int)(b:Nq (-k)=a)(f:0<=a)(g:a<4294967296)(w:AK):
 Bf prog 153 #[NV ng i s l,iI k,qB m] w λe w'=>e=.returned (.tuple #[iU (wd 0 (fO s a.toNat)),.bool l])/\Np w w w':=by
 go_enter func153,ntmps153;go_upto_region 2 with(fail);have C:=Zp (λW=>da s d a f g W);have n:=λw=>Wt (wd 0 (fO s a.toNat)) (wd 1 (fO s a.toNat)) (wd 2 (fO s a.toNat)) (wd 3 (fO s a.toNat)) w;clear f g d;have h:IntKind.i64.wrap (-k)=a:=by rw[ZZ];simpa only[Nq]using b
 go_region_held3(λw'=>w' (aD w 2)=iU (wd 0 s)/\w' (aD w 3)=iU (wd 1 s)/\w' (aD w 4)=iU (wd 2 s)/\w' (aD w 5)=iU (wd 3 s)/\w' (aD w 6)=some (.bool l))
  (first
   |(refine⟨?_,?_,?_,?_,?_⟩<;>(go_simp;done))
   |(refine⟨?_,?_,?_,?_,?_⟩<;>(rw[c.cell sD];go_simp;done))
   |go_keep)
  (first|(go_at_call 145;refine gB (C.out _) λo c=>?_))
 repeat(any_goals(first|go_values|go_skip|go_guarded|go_step|go_upon))
 go_ret2
 refine⟨rfl,?_⟩;exact cB
def rK{a a':Int}{b c:Bool}(d:a=a')(e:b=c):Ending.returned (.tuple #[iU a,.bool b])=.returned (.tuple #[iU a',.bool c]):=by rw[d,e]
attribute[local go_sem] and_1
def AM(ng l:Bool)(j:Int)(s Q H:Nat)(n d c:Bool)(k f:Int)(m g:Nat)(o:m<5)(u:¬k<=0)(p:Nq (k-1)=f)
 (q:Hid (∀W:AK,Bf prog 160 #[W4 s,iI k] W λe w'=>e=.returned (.tuple #[W4 Q,.bool n])/\Np W W w'))
 (r:Hid (∀W:AK,Bf prog 160 #[W4 s,iI f] W λe w'=>e=.returned (.tuple #[W4 H,.bool true])/\Np W W w'))
 (v:((wd 0 H:Int)%2==1)=c)(x:((wd 0 Q:Int)%2==1)=d)(y:upB m ng d c true)(z:IntKind.u64.wrap ((wd 0 Q:Int)+1)=g)(w:AK):
 Bf prog 153 #[NV ng j s l,iI k,qB m] w λe w'=>e=.returned (.tuple #[iU g,.bool (c||true)])/\Np w w w':=by
 go_enter func153,ntmps153
 go_wp2_with fail
 refine(q.out _).mono ?_;rintro e h⟨rfl,b⟩;have aJ:=(b).size;(try simp at aJ);have kL:(w:Nat)<h:=oM;obtain⟨cD,cC⟩:=bcC (w+1) b;go_simp
 go_wp2_with fail
 refine(r.out _).mono ?_;rintro e i⟨rfl,a⟩;have aU:=(a).size;(try simp at aU);have kJ:(w:Nat)<i:=oM;obtain⟨en,ei⟩:=bcB a;have t:(h:Nat)<i:=(by have:=a.size;simp at this;omega);go_simp;repeat(any_goals(first|go_values|go_skip|go_guarded|go_step|go_upon))
 go_quiet(fail)
 go_wp2_with fail
 refine(sC m o ng d c true _).mono ?_;rintro e A⟨rfl,rfl⟩;go_simp;repeat(any_goals(first|go_values|go_skip|go_guarded|go_step|go_upon))
 all_goals go_ret2
 all_goals refine⟨rK rfl (by first|(simp;done)|simp_all),?_⟩
 all_goals(exact cB)
def AN(ng l:Bool)(i:Int)(s Q H:Nat)(j d c:Bool)(k f:Int)(m n:Nat)(o:m<5)(u:¬k<=0)(p:Nq (k-1)=f)
 (q:Hid (∀W:AK,Bf prog 160 #[W4 s,iI k] W λe w'=>e=.returned (.tuple #[W4 Q,.bool j])/\Np W W w'))
 (r:Hid (∀W:AK,Bf prog 160 #[W4 s,iI f] W λe w'=>e=.returned (.tuple #[W4 H,.bool true])/\Np W W w'))
 (v:((wd 0 H:Int)%2==1)=c)(x:((wd 0 Q:Int)%2==1)=d)(y:upB m ng d c true=false)(z:IntKind.u64.wrap ((wd 0 Q:Int)+1)=n)(w:AK):
 Bf prog 153 #[NV ng i s l,iI k,qB m] w λe w'=>e=.returned (.tuple #[iU (wd 0 Q),.bool (c||true)])/\Np w w w':=by
 go_enter func153,ntmps153
 go_wp2_with fail
 refine(q.out _).mono ?_;rintro e g⟨rfl,b⟩;have aJ:=(b).size;(try simp at aJ);have kL:(w:Nat)<g:=oM;obtain⟨cD,cC⟩:=bcC (w+1) b;go_simp
 go_wp2_with fail
 refine(r.out _).mono ?_;rintro e h⟨rfl,a⟩;have aU:=(a).size;(try simp at aU);have kJ:(w:Nat)<h:=oM;obtain⟨en,ei⟩:=bcB a;have t:(g:Nat)<h:=(by have:=a.size;simp at this;omega);go_simp;repeat(any_goals(first|go_values|go_skip|go_guarded|go_step|go_upon))
 go_quiet(fail)
 go_wp2_with fail
 refine(sC m o ng d c true _).mono ?_;rintro e A⟨rfl,rfl⟩;go_simp;repeat(any_goals(first|go_values|go_skip|go_guarded|go_step|go_upon))
 all_goals go_ret2
 all_goals refine⟨rK rfl (by first|(simp;done)|simp_all),?_⟩
 all_goals(exact cB)
def AO(ng l:Bool)(j:Int)(s Q H:Nat)(n d c:Bool)(k f:Int)(m g:Nat)(o:m<5)(u:¬k<=0)(p:Nq (k-1)=f)
 (q:Hid (∀W:AK,Bf prog 160 #[W4 s,iI k] W λe w'=>e=.returned (.tuple #[W4 Q,.bool n])/\Np W W w'))
 (r:Hid (∀W:AK,Bf prog 160 #[W4 s,iI f] W λe w'=>e=.returned (.tuple #[W4 H,.bool false])/\Np W W w'))
 (v:((wd 0 H:Int)%2==1)=c)(x:((wd 0 Q:Int)%2==1)=d)(y:upB m ng d c l)(z:IntKind.u64.wrap ((wd 0 Q:Int)+1)=g)(w:AK):
 Bf prog 153 #[NV ng j s l,iI k,qB m] w λe w'=>e=.returned (.tuple #[iU g,.bool (c||l)])/\Np w w w':=by
 go_enter func153,ntmps153
 go_wp2_with fail
 refine(q.out _).mono ?_;rintro e h⟨rfl,b⟩;have aJ:=(b).size;(try simp at aJ);have kL:(w:Nat)<h:=oM;obtain⟨cD,cC⟩:=bcC (w+1) b;go_simp
 go_wp2_with fail
 refine(r.out _).mono ?_;rintro e i⟨rfl,a⟩;have aU:=(a).size;(try simp at aU);have kJ:(w:Nat)<i:=oM;obtain⟨en,ei⟩:=bcB a;have t:(h:Nat)<i:=(by have:=a.size;simp at this;omega);go_simp;repeat(any_goals(first|go_values|go_skip|go_guarded|go_step|go_upon))
 go_quiet(fail)
 go_wp2_with fail
 refine(sC m o ng d c l _).mono ?_;rintro e A⟨rfl,rfl⟩;go_simp;repeat(any_goals(first|go_values|go_skip|go_guarded|go_step|go_upon))
 all_goals go_ret2
 all_goals refine⟨rK rfl (by first|(simp;done)|simp_all),?_⟩
 all_goals(exact cB)
def AP(ng l:Bool)(i:Int)(s Q H:Nat)(j d c:Bool)(k f:Int)(m n:Nat)(o:m<5)(u:¬k<=0)(p:Nq (k-1)=f)
 (q:Hid (∀W:AK,Bf prog 160 #[W4 s,iI k] W λe w'=>e=.returned (.tuple #[W4 Q,.bool j])/\Np W W w'))
 (r:Hid (∀W:AK,Bf prog 160 #[W4 s,iI f] W λe w'=>e=.returned (.tuple #[W4 H,.bool false])/\Np W W w'))
 (v:((wd 0 H:Int)%2==1)=c)(x:((wd 0 Q:Int)%2==1)=d)(y:upB m ng d c l=false)(z:IntKind.u64.wrap ((wd 0 Q:Int)+1)=n)(w:AK):
 Bf prog 153 #[NV ng i s l,iI k,qB m] w λe w'=>e=.returned (.tuple #[iU (wd 0 Q),.bool (c||l)])/\Np w w w':=by
 go_enter func153,ntmps153
 go_wp2_with fail
 refine(q.out _).mono ?_;rintro e g⟨rfl,b⟩;have aJ:=(b).size;(try simp at aJ);have kL:(w:Nat)<g:=oM;obtain⟨cD,cC⟩:=bcC (w+1) b;go_simp
 go_wp2_with fail
 refine(r.out _).mono ?_;rintro e h⟨rfl,a⟩;have aU:=(a).size;(try simp at aU);have kJ:(w:Nat)<h:=oM;obtain⟨en,ei⟩:=bcB a;have t:(g:Nat)<h:=(by have:=a.size;simp at this;omega);go_simp;repeat(any_goals(first|go_values|go_skip|go_guarded|go_step|go_upon))
 go_quiet(fail)
 go_wp2_with fail
 refine(sC m o ng d c l _).mono ?_;rintro e A⟨rfl,rfl⟩;go_simp;repeat(any_goals(first|go_values|go_skip|go_guarded|go_step|go_upon))
 all_goals go_ret2
 all_goals refine⟨rK rfl (by first|(simp;done)|simp_all),?_⟩
 all_goals(exact cB)
def EM(n:Nat):((n:Int)%2==1)=decide (n%2=1):=by
 by_cases h:n%2=1
 .rw[ZP h,abH];omega
 rw[Zv h,Zs];omega
def Kz(ng l:Bool)(d:Int)(s:Nat)(n:au s)(k:Int)(q:0<k)(p:k<4294967296)(m:Nat)(f:m<5)(w:AK):
 Bf prog 153 #[NV ng d s l,iI k,qB m] w λe w'=>
  e=.returned (.tuple #[iU (EA m ng (wd 0 (s/2^k.toNat)) (decide (wd 0 (s/2^(k-1).toNat)%2=1)) (decide (s%2^(k-1).toNat≠0)||l)),.bool (decide (wd 0 (s/2^(k-1).toNat)%2=1)||(decide (s%2^(k-1).toNat≠0)||l))])/\Np w w w':=by
 have a:Nq (k-1)=k-1:=by unfold Nq;omega
 have g:=Zp (λW=>yu s n k oM W);have c:=Zp (λW=>yu s n (k-1) oM W);have r:=(ax 0 (s/2^k.toNat)).out;have h:=EM (wd 0 (s/2^k.toNat));have i:=EM (wd 0 (s/2^(k-1).toNat));generalize s/2^k.toNat=Q at*;generalize s/2^(k-1).toNat=H at*;have j:IntKind.u64.wrap ((wd 0 Q:Int)+1)=((wd 0 Q+1)%18446744073709551616:Nat):=by rw[ZV];omega
 unfold EA;by_cases o:s%2^(k-1).toNat≠0
 .rw[ZP o]at c⊢;simp only[Bool.true_or];by_cases b:upB m ng (decide (wd 0 Q%2=1)) (decide (wd 0 H%2=1)) true
  .rw[ZC b];exact AM ng l d s Q H _ _ _ k (k-1) m _ f oM a g c i h b j w
  rw[Zr b];exact AN ng l d s Q H _ _ _ k (k-1) m _ f oM a g c i h (by simpa using b) j w
 rw[Zv o]at c⊢;simp only[Bool.false_or];by_cases b:upB m ng (decide (wd 0 Q%2=1)) (decide (wd 0 H%2=1)) l
 .rw[ZC b];exact AO ng l d s Q H _ _ _ k (k-1) m _ f oM a g c i h b j w
 rw[Zr b];exact AP ng l d s Q H _ _ _ k (k-1) m _ f oM a g c i h (by simpa using b) j w
end
section
open Go.RowKit
def Bc(n k:Nat):wd 0 (n/2^k)%2=n/2^k%2:=by rw[wd0];omega
def Ez(ng l:Bool)(a:Int)(s:Nat)(d:au s)(K:Int)(m:Nat)(j:m<5)(n:-100000<=K)(o:K<=100000)(u:(bl s:Int)-K<=62)(w:AK):
 Bf prog 153 #[NV ng a s l,iI K,qB m] w λe w'=>e=.returned (.tuple #[iU (eU m ng s l K),.bool (gV s l K)])/\Np w w w':=by
 by_cases hK:K<=0
 .rw[me hK,mV hK];have f:s*2^(-K).toNat<18446744073709551616:=by
   have b:=aN s;have g:=aax b (Zy (-K).toNat);rw[<-ZD]at g;have c:(2:Nat)^(bl s+(-K).toNat)<=2^64:=aaa dC oM;exact ZB g c
  have p:wd 0 (fO s (-K).toNat)=s*2^(-K).toNat:=by
   rw[oH,wd0];have q:(18446744073709551616:Nat)<=2^256:=dC;rw[aac (ZB f q),aac f]
  have:=Nu ng l a s d K m hK (-K) (by unfold Nq;omega) oM oM w;rw[p]at this;exact this
 obtain⟨k,rfl⟩:∃k:Nat,K=k:=⟨K.toNat,oM⟩;have i:0<k:=oM;rw[pq i,mU i];have v:s/2^k<4611686018427387904:=by
  rw[Z4 (Zy k)];have b:=aN s;have c:(2:Nat)^bl s<=2^62*2^k:=by rw[<-ZD];exact aaa dC oM
  exact ZB b c
 have r:wd 0 (s/2^k)=s/2^k:=by rw[wd0];exact aac oM
 have:=Kz ng l a s d k oM oM m j w;rw[aaB,show((k:Int)-1).toNat=k-1 from by omega,r,Bc]at this;have t:∀h l,EA m ng (s/2^k) h l=if upB m ng (decide (s/2^k%2=1)) h l then s/2^k+1 else s/2^k:=λh l=>by
  unfold EA;split
  .rw[aac oM]
  rfl
 rw[t]at this;exact this
def ig(ng:Bool)(x:Nat)(a:x<9223372036854775808):Na .or .u64 (aF ng:Int) (x:Int)=((aF ng+x:Nat):Int):=by
 cases ng
 .have e:aF false=0:=rfl;rw[e,acB 0 x oM oM,adI,Z8]
 have e:aF true=9223372036854775808:=rfl;rw[e,acB _ x oM oM];have:=acL (i:=63) (b:=x) a 1;rw[adK]at this;rw[show(9223372036854775808:Nat)=2^63 from by decide,this]
def FJ(ng l u:Bool)(a g T:Int)(s y m:Nat)(d:Bool)(h:au s)(i:U64 y)
 (hK:Nq ((bl s:Int)-53)=g)(j:Hid (∀W:AK,Bf prog 153 #[NV ng a s l,iI g,qB m] W λe w'=>e=.returned (.tuple #[iU y,.bool d])/\Np W W w'))
 (t1:IntKind.i64.wrap (a+(bl s:Int))=a+(bl s:Int))(t2:IntKind.i64.wrap (a+(bl s:Int)-54)=a+(bl s:Int)-54)(t3:IntKind.i64.wrap (a+(bl s:Int)-54+(bl y:Int))=T)
 (t:decide ((1024:Int)<=T))(k:upB m ng true true true=u)(n:m<5)(o p:Nat)(q:Na .or .u64 (aF ng:Int) 9218868437227405312=o)(r:Na .or .u64 (aF ng:Int) 9218868437227405311=p)(w:AK):
 Bf prog 143 #[NV ng a s l,qB m] w (ai (if u then o else p) 5 false w):=by
 have S:=Zp (λW=>lh s h W);have Y:=Zp (λW=>nu y i W);have f:=Zp (λW=>sC m n ng true true true W);rw[k]at f;clear h i n k;cases u
 .rw[Zr dC];go_enter func143,ntmps143
  go_wp2_with(go_at_call 149;refine gW (cA _ _) ?_)
  refine gB (S.out _) λb jg=>?_;have aJ:=(jg).size;(try simp at aJ);have kL:(w:Nat)<b:=oM;have kK:(w:Nat)+1<b:=oM;obtain⟨kP,kN⟩:=bcC (w+1+1) jg
  go_wp2_with fail
  refine gB (j.out _) λc jf=>?_;have aU:=(jf).size;(try simp at aU);have kJ:(w:Nat)<c:=oM;have kI:(w:Nat)+1<c:=oM;obtain⟨kO,kM⟩:=bcC (w+1+1) jf
  go_wp2_with fail
  go_region_held3(λw'=>cF w' w 1 (iI a))
   (first
    |(go_simp;done)
    |assumption
    |go_keep)
   (first|(go_at_call 154;refine gW (Y.out _) ?_))
  go_wp2_with(go_at_call 155;refine gW (f.out _) ?_)
  exact bR ⟨rfl,cB⟩
 rw[ZC rfl];go_enter func143,ntmps143
 go_wp2_with(go_at_call 149;refine gW (cA _ _) ?_)
 refine gB (S.out _) λb jg=>?_;have aJ:=(jg).size;(try simp at aJ);have kL:(w:Nat)<b:=oM;have kK:(w:Nat)+1<b:=oM;obtain⟨kP,kN⟩:=bcC (w+1+1) jg
 go_wp2_with fail
 refine gB (j.out _) λc jf=>?_;have aU:=(jf).size;(try simp at aU);have kJ:(w:Nat)<c:=oM;have kI:(w:Nat)+1<c:=oM;obtain⟨kO,kM⟩:=bcC (w+1+1) jf
 go_wp2_with fail
 go_region_held3(λw'=>cF w' w 1 (iI a))
  (first
   |(go_simp;done)
   |assumption
   |go_keep)
  (first|(go_at_call 154;refine gW (Y.out _) ?_))
 go_wp2_with(go_at_call 155;refine gW (f.out _) ?_)
 exact bR ⟨rfl,cB⟩
def FH(ng l:Bool)(a i T:Int)(s y m:Nat)(h:Bool)(j:au s)(k:U64 y)
 (hK:Nq ((bl s:Int)-53)=i)(n:Hid (∀W:AK,Bf prog 153 #[NV ng a s l,iI i,qB m] W λe w'=>e=.returned (.tuple #[iU y,.bool h])/\Np W W w'))
 (t1:IntKind.i64.wrap (a+(bl s:Int))=a+(bl s:Int))(t2:IntKind.i64.wrap (a+(bl s:Int)-54)=a+(bl s:Int)-54)(t3:IntKind.i64.wrap (a+(bl s:Int)-54+(bl y:Int))=T)
 (t:decide ((1024:Int)<=T)=false)(q:decide (T< -1022))(K2:Int)(r:Nq (-1074-a)=K2)(o:Nat)(c:Bool)
 (p:Hid (∀W:AK,Bf prog 153 #[NV ng a s l,iI K2,qB m] W λe w'=>e=.returned (.tuple #[iU o,.bool c])/\Np W W w'))(b:Nat)(u:Na .or .u64 (aF ng:Int) (o:Int)=b)(w:AK):
 Bf prog 143 #[NV ng a s l,qB m] w (ai b (if c then 3 else 0) false w):=by
 have S:=Zp (λW=>lh s j W);have Y:=Zp (λW=>nu y k W);clear j k;cases c
 .rw[Zr dC];go_enter func143,ntmps143
  go_wp2_with(go_at_call 149;refine gW (cA _ _) ?_)
  refine gB (S.out _) λd jg=>?_;have aJ:=(jg).size;(try simp at aJ);have kL:(w:Nat)<d:=oM;have kK:(w:Nat)+1<d:=oM;obtain⟨kP,kN⟩:=bcC (w+1+1) jg
  go_wp2_with fail
  refine gB (n.out _) λf jf=>?_;have aU:=(jf).size;(try simp at aU);have kJ:(w:Nat)<f:=oM;have kI:(w:Nat)+1<f:=oM;obtain⟨kO,kM⟩:=bcC (w+1+1) jf
  go_wp2_with fail
  go_region_held3(λw'=>cF w' w 1 (iI a))
   (first
    |(go_simp;done)
    |assumption
    |go_keep)
   (first|(go_at_call 154;refine gW (Y.out _) ?_))
  go_wp2_with fail
  refine gB (p.out _) λg JQ=>?_;have Ak:=(JQ).size;(try simp at Ak);have MU:(w:Nat)<g:=oM;have MT:(w:Nat)+1<g:=oM;obtain⟨MW,MV⟩:=bcC (w+1+1) JQ
  go_wp2_with fail
  exact bR ⟨rfl,cB⟩
 rw[ZC rfl];go_enter func143,ntmps143
 go_wp2_with(go_at_call 149;refine gW (cA _ _) ?_)
 refine gB (S.out _) λd jg=>?_;have aJ:=(jg).size;(try simp at aJ);have kL:(w:Nat)<d:=oM;have kK:(w:Nat)+1<d:=oM;obtain⟨kP,kN⟩:=bcC (w+1+1) jg
 go_wp2_with fail
 refine gB (n.out _) λf jf=>?_;have aU:=(jf).size;(try simp at aU);have kJ:(w:Nat)<f:=oM;have kI:(w:Nat)+1<f:=oM;obtain⟨kO,kM⟩:=bcC (w+1+1) jf
 go_wp2_with fail
 go_region_held3(λw'=>cF w' w 1 (iI a))
  (first
   |(go_simp;done)
   |assumption
   |go_keep)
  (first|(go_at_call 154;refine gW (Y.out _) ?_))
 go_wp2_with fail
 refine gB (p.out _) λg JQ=>?_;have Ak:=(JQ).size;(try simp at Ak);have MU:(w:Nat)<g:=oM;have MT:(w:Nat)+1<g:=oM;obtain⟨MW,MV⟩:=bcC (w+1+1) JQ
 go_wp2_with fail
 exact bR ⟨rfl,cB⟩
def tc(ng l:Bool)(c k T:Int)(s y m:Nat)(g:Bool)(n:au s)(o:U64 y)
 (hK:Nq ((bl s:Int)-53)=k)(i:Hid (∀W:AK,Bf prog 153 #[NV ng c s l,iI k,qB m] W λe w'=>e=.returned (.tuple #[iU y,.bool g])/\Np W W w'))
 (t1:IntKind.i64.wrap (c+(bl s:Int))=c+(bl s:Int))(t2:IntKind.i64.wrap (c+(bl s:Int)-54)=c+(bl s:Int)-54)(t3:IntKind.i64.wrap (c+(bl s:Int)-54+(bl y:Int))=T)
 (v:decide ((1024:Int)<=T)=false)(r:decide (T< -1022)=false)(h:Bool)(t:((bl y:Int)==54)=h)(p:Nat)(a:(p:Int)=if h then(y:Int)/2 else y)(x q b:Nat)
 (z:IntKind.u64.wrap (IntKind.u64.wrap (Nq (T+1022))*4503599627370496)=x)(u:Na .or .u64 (aF ng:Int) x=q)(j:IntKind.u64.wrap ((q:Int)+p)=b)(w:AK):
 Bf prog 143 #[NV ng c s l,qB m] w (ai b (if g then 1 else 0) false w):=by
 have S:=Zp (λW=>lh s n W);have Y:=Zp (λW=>nu y o W);clear n o;cases h<;>cases g
 .simp only[abI,acd,aba]at a⊢;rw[a]at j;clear a;go_enter func143,ntmps143
  go_wp2_with(go_at_call 149;refine gW (cA _ _) ?_)
  refine gB (S.out _) λd jg=>?_;have aJ:=(jg).size;(try simp at aJ);have kL:(w:Nat)<d:=oM;have kK:(w:Nat)+1<d:=oM;obtain⟨kP,kN⟩:=bcC (w+1+1) jg
  go_wp2_with fail
  refine gB (i.out _) λf jf=>?_;have aU:=(jf).size;(try simp at aU);have kJ:(w:Nat)<f:=oM;have kI:(w:Nat)+1<f:=oM;obtain⟨kO,kM⟩:=bcC (w+1+1) jf
  go_wp2_with fail
  go_region_held3(λw'=>cF w' w 1 (iI c))
   (first
    |(go_simp;done)
    |assumption
    |go_keep)
   (first|(go_at_call 154;refine gW (Y.out _) ?_))
  go_wp2_with(go_at_call 154;refine gW (Y.out _) ?_)
  exact bR ⟨rfl,cB⟩
 .simp only[abI,acd,aba]at a⊢;rw[a]at j;clear a;go_enter func143,ntmps143
  go_wp2_with(go_at_call 149;refine gW (cA _ _) ?_)
  refine gB (S.out _) λd jg=>?_;have aJ:=(jg).size;(try simp at aJ);have kL:(w:Nat)<d:=oM;have kK:(w:Nat)+1<d:=oM;obtain⟨kP,kN⟩:=bcC (w+1+1) jg
  go_wp2_with fail
  refine gB (i.out _) λf jf=>?_;have aU:=(jf).size;(try simp at aU);have kJ:(w:Nat)<f:=oM;have kI:(w:Nat)+1<f:=oM;obtain⟨kO,kM⟩:=bcC (w+1+1) jf
  go_wp2_with fail
  go_region_held3(λw'=>cF w' w 1 (iI c))
   (first
    |(go_simp;done)
    |assumption
    |go_keep)
   (first|(go_at_call 154;refine gW (Y.out _) ?_))
  go_wp2_with(go_at_call 154;refine gW (Y.out _) ?_)
  exact bR ⟨rfl,cB⟩
 .simp only[abI,acd,aba]at a⊢;rw[a]at j;clear a;go_enter func143,ntmps143
  go_wp2_with(go_at_call 149;refine gW (cA _ _) ?_)
  refine gB (S.out _) λd jg=>?_;have aJ:=(jg).size;(try simp at aJ);have kL:(w:Nat)<d:=oM;have kK:(w:Nat)+1<d:=oM;obtain⟨kP,kN⟩:=bcC (w+1+1) jg
  go_wp2_with fail
  refine gB (i.out _) λf jf=>?_;have aU:=(jf).size;(try simp at aU);have kJ:(w:Nat)<f:=oM;have kI:(w:Nat)+1<f:=oM;obtain⟨kO,kM⟩:=bcC (w+1+1) jf
  go_wp2_with fail
  go_region_held3(λw'=>cF w' w 1 (iI c))
   (first
    |(go_simp;done)
    |assumption
    |go_keep)
   (first|(go_at_call 154;refine gW (Y.out _) ?_))
  go_wp2_with(go_at_call 154;refine gW (Y.out _) ?_)
  exact bR ⟨rfl,cB⟩
 simp only[abI,acd,aba]at a⊢;rw[a]at j;clear a;go_enter func143,ntmps143
 go_wp2_with(go_at_call 149;refine gW (cA _ _) ?_)
 refine gB (S.out _) λd jg=>?_;have aJ:=(jg).size;(try simp at aJ);have kL:(w:Nat)<d:=oM;have kK:(w:Nat)+1<d:=oM;obtain⟨kP,kN⟩:=bcC (w+1+1) jg
 go_wp2_with fail
 refine gB (i.out _) λf jf=>?_;have aU:=(jf).size;(try simp at aU);have kJ:(w:Nat)<f:=oM;have kI:(w:Nat)+1<f:=oM;obtain⟨kO,kM⟩:=bcC (w+1+1) jf
 go_wp2_with fail
 go_region_held3(λw'=>cF w' w 1 (iI c))
  (first
   |(go_simp;done)
   |assumption
   |go_keep)
  (first|(go_at_call 154;refine gW (Y.out _) ?_))
 go_wp2_with(go_at_call 154;refine gW (Y.out _) ?_)
 exact bR ⟨rfl,cB⟩
end
section
open Go.RowKit
def Ls{s:Nat}(h:au s):bl s<=256:=br.2 h.out
def Dc{m n j:Nat}{ng l:Bool}{K:Int}(h:(bl n:Int)-K<=j):eU m ng n l K<=2^j:=by
 have a:=aN n;by_cases hK:K<=0
 .rw[me hK];have:=Z9 (2^(-K).toNat) (abw a);rw[<-ZD]at this;exact Zz this (aaa dC oM)
 obtain⟨k,rfl⟩:∃k:Nat,K=k:=⟨K.toNat,oM⟩;obtain⟨_,c⟩:=pr (m:=m) (n:=n) (ng:=ng) (l:=l) (show 0<k by omega);have b:=Zy k;have d2:n/2^k<2^j:=by
  rw[Z4 b,<-ZD];exact ZB a (aaa dC oM)
 omega
def Lr(m:Nat)(a:m<5)(ng:Bool):(if m=2\/(m=3/\ng)\/(m=4/\ng=false)then 9218868437227405311 else 9218868437227405312:Nat)=if upB m ng true true true then 9218868437227405312 else 9218868437227405311:=by
 have:m=0\/m=1\/m=2\/m=3\/m=4:=oM;rcases this with rfl|rfl|rfl|rfl|rfl<;>cases ng<;>rfl
def fD(ng l:Bool)(a:Int)(s m:Nat)(c:au s)(x:s≠0)(i:m<5)(A:-90000<=a)(B:a<=90000)(w:AK):
 Bf prog 143 #[NV ng a s l,qB m] w (ai (az m ng s l a).1 (az m ng s l a).2 false w):=by
 have C:=Ls c;obtain⟨D,J⟩:=wG (m:=m) (ng:=ng) (l:=l) x;have E:aF ng=0\/aF ng=9223372036854775808:=by cases ng;exact .inl rfl;exact .inr rfl
 have k:Hid (∀W:AK,Bf prog 153 #[NV ng a s l,iI ((bl s:Int)-53),qB m] W λe w'=>e=.returned (.tuple #[iU (eU m ng s l ((bl s:Int)-53)),.bool (gV s l ((bl s:Int)-53))])/\Np W W w'):=
  λW=>Ez ng l a s c _ m i oM oM oM W
 have L:nR m ng s l a=(bl (eU m ng s l ((bl s:Int)-53)):Int)+a+bl s-54:=rfl;have t:=Lr m i ng;generalize F:nR m ng s l a=T at*;unfold az;rw[F,t];have G:53<=bl (eU m ng s l ((bl s:Int)-53))/\bl (eU m ng s l ((bl s:Int)-53))<=54:=⟨jz.2 D,br.2 oM⟩;generalize eU m ng s l ((bl s:Int)-53)=y at*;generalize gV s l ((bl s:Int)-53)=b at*;have o:U64 y:=by unfold U64;omega
 have t1:IntKind.i64.wrap (a+(bl s:Int))=a+(bl s:Int):=by rw[ZZ];omega
 have t2:IntKind.i64.wrap (a+(bl s:Int)-54)=a+(bl s:Int)-54:=by rw[ZZ];omega
 have t3:IntKind.i64.wrap (a+(bl s:Int)-54+(bl y:Int))=T:=by rw[ZZ];omega
 have p:Nq ((bl s:Int)-53)=(bl s:Int)-53:=by unfold Nq;omega
 by_cases q:1024<=T
 .rw[ZC q];have:=FJ ng l _ a _ T s y m b c o p k t1 t2 t3 (ZP q) rfl i (aF ng+9218868437227405312) (aF ng+9218868437227405311) (ig ng 9218868437227405312 oM) (ig ng 9218868437227405311 oM) w;refine this.mono λe w' h=>⟨?_,h.2⟩;rw[h.1];split<;>rfl
 rw[Zr q];have d:=Zv q;by_cases r:T< -1022
 .rw[ZC r];have M:=Dc (m:=m) (n:=s) (ng:=ng) (l:=l) (K:=-1074-a) (j:=52) oM;have H:Hid (∀W:AK,Bf prog 153 #[NV ng a s l,iI (-1074-a),qB m] W λe w'=>e=.returned (.tuple #[iU (eU m ng s l (-1074-a)),.bool (gV s l (-1074-a))])/\Np W W w'):=
   λW=>Ez ng l a s c _ m i oM oM oM W
  generalize eU m ng s l (-1074-a)=z at*;have:=FH ng l a _ T s y m b c o p k t1 t2 t3 d (ZP r) (-1074-a) (by unfold Nq;omega) z _ H (aF ng+z) (ig ng z oM) w;exact this
 rw[Zr r];have f:=Zv r;have v:IntKind.u64.wrap (IntKind.u64.wrap (Nq (T+1022))*4503599627370496)=(((T+1022).toNat*4503599627370496:Nat):Int):=by unfold Nq;rw[ZV,ZV];omega
 have g:=ig ng ((T+1022).toNat*4503599627370496) oM;by_cases u:bl y=54
 .rw[ZC u];have I:2^53<=y:=jz.1 oM;have:=tc ng l a _ T s y m b c o p k t1 t2 t3 d f true (by rw[u];rfl) (y/2) (by rw[ZC rfl];omega) _ _ (aF ng+(T+1023).toNat*4503599627370496+(y/2-4503599627370496)) v g (by rw[ZV];omega) w;exact this
 rw[Zr u];have:=tc ng l a _ T s y m b c o p k t1 t2 t3 d f false (by rw[Zs];omega) y (by rw[Zr dC]) _ _ (aF ng+(T+1023).toNat*4503599627370496+(y-4503599627370496)) v g (by rw[ZV];omega) w;exact this
end
section
open Go.RowKit
def RB(w:AK)(m a b c:Nat)(W:AK):Prop:=
 (W (aD w 1)=qB m/\W (aD w 2)=iU a/\W (aD w 3)=iU b/\W (aD w 4)=iU c)/\
 (W (aD (w+1) 0)=iU 0/\W (aD (w+1) 1)=qB 0/\W (aD (w+1) 2)=some (.bool false))/\
 (W.frozen? (aD (w+1) 0)=false/\W.frozen? (aD (w+1) 1)=false/\W.frozen? (aD (w+1) 2)=false)/\
 (w:Nat)+2<=W/\Np w w W
section
variable{w W W1:AK}{m a b c:Nat}
def RB.step(h:RB w m a b c W)(d:Np W W W1):RB w m a b c W1:=by
 obtain⟨⟨j,k,l,n⟩,⟨e,f,g⟩,⟨c0,o,p⟩,q,i⟩:=h;exact⟨⟨ae d j,ae d k,ae d l,ae d n⟩,⟨ae d e,ae d f,ae d g⟩,
  ⟨aq d e c0,aq d f o,aq d g p⟩,Zz q d.size,i.trans (d.mono i.size)⟩
def aeE:=@RB.step
def RB.drew(h:RB w m a b c W):RB w m a b c W.drew:=by
 obtain⟨d,e,f,g,i⟩:=h;exact⟨d,e,f,g,i.drew⟩
def RB.alloc(h:RB w m a b c W)(o:Obj):RB w m a b c (W.alloc o):=h.step ((Zx _ W).alloc (Zo _) o)
def aeF:=@RB.alloc
def RB.start(op:Nat):RB w m a b c (aC (aC w #[qB op,qB m,iU a,iU b,iU c] 59) #[iU 0,qB 0,.bool false] 56):=by
 refine⟨⟨?_,?_,?_,?_⟩,⟨?_,?_,?_⟩,⟨?_,?_,?_⟩,?_,((Zx _ w).alloc sM _).alloc sM _⟩;all_goals first|(go_simp;done)|(simp;done)
def aeG:=@RB.start
def RB.laid(h:RB w m a b c W)(x f:Nat)(d:Bool):Np w w (sC3 W (w+1) (iU x) (qB f) (.bool d)):=
 ((h.2.2.2.2.setCell (p:=⟨_,_,_⟩) (by show (w:Nat)<=w+1;omega) _).setCell (p:=⟨_,_,_⟩) (by show (w:Nat)<=w+1;omega) _).setCell (p:=⟨_,_,_⟩) (by show (w:Nat)<=w+1;omega) _
end
theorem rb1{P:Prop}(h:P:=by repeat'(first|with_reducible assumption|refine RB.drew ?_|refine aeF ?_ _)):P:=h
end
section
open Go.RowKit
variable{g':Nat}
abbrev NO(n:Bool)(e:Int)(s:Nat)(l:Bool):Obj:=.cells #[.bool n,iI e,iU (wd 0 s),iU (wd 1 s),iU (wd 2 s),iU (wd 3 s),.bool l] 182
def NB(W:AK)(g:Nat)(n:Bool)(e:Int)(s:Nat)(l:Bool):Prop:=
 (W (aD g 0)=some (.bool n)/\W (aD g 1)=iI e/\W (aD g 2)=iU (wd 0 s)/\W (aD g 3)=iU (wd 1 s)/\W (aD g 4)=iU (wd 2 s)/\W (aD g 5)=iU (wd 3 s)/\W (aD g 6)=some (.bool l))/\
 (W.frozen? (aD g 0)=false/\W.frozen? (aD g 1)=false/\W.frozen? (aD g 2)=false/\W.frozen? (aD g 3)=false/\W.frozen? (aD g 4)=false/\W.frozen? (aD g 5)=false/\W.frozen? (aD g 6)=false)
section
variable{W W1:AK}{g:Nat}{n n':Bool}{e e':Int}{s s':Nat}{l l':Bool}
def NB.below{B:Nat}(h:NB W g n e s l)(a:Np B W W1)(b:g<B):NB W1 g n e s l:=by
 obtain⟨⟨c0,c,d,f,i,j,k⟩,f0,f1,f2,f3,f4,f5,f6⟩:=h;exact⟨⟨(a.cell b).trans c0,(a.cell b).trans c,(a.cell b).trans d,(a.cell b).trans f,(a.cell b).trans i,(a.cell b).trans j,(a.cell b).trans k⟩,
  (a.frozen b).trans f0,(a.frozen b).trans f1,(a.frozen b).trans f2,(a.frozen b).trans f3,(a.frozen b).trans f4,(a.frozen b).trans f5,(a.frozen b).trans f6⟩
def NB.lt(h:NB W g n e s l):g<W:=aaz _ _ h.1.1
def NB.call(h:NB W g n e s l)(a:Np W W W1):NB W1 g n e s l:=h.below a h.lt
def aeH:=@NB.call
def NB.drew(h:NB W g n e s l):NB W.drew g n e s l:=h
def aeP:=@NB.drew
def NB.alloc(h:NB W g n e s l)(o:Obj):NB (W.alloc o) g n e s l:=h.call ((Zx _ W).alloc (Zo _) o)
def aeQ:=@NB.alloc
def NB.new:NB (W.alloc (NO n e s l)) W n e s l:=by
 refine⟨⟨?_,?_,?_,?_,?_,?_,?_⟩,?_,?_,?_,?_,?_,?_,?_⟩<;>(go_simp;done)
def NB.far(h:NB W g n e s l){p:Es}(b:p.block≠g)(v:Aq):NB (W.setCell p v) g n e s l:=by
 obtain⟨⟨c0,c,d,f,j,k,m⟩,f0,f1,f2,f3,f4,f5,f6⟩:=h;have a:∀i:Nat,p≠(aD g i):=λi e=>b (by rw[e]);exact⟨⟨(ZA _ _ _ _ (a 0)).trans c0,(ZA _ _ _ _ (a 1)).trans c,(ZA _ _ _ _ (a 2)).trans d,(ZA _ _ _ _ (a 3)).trans f,(ZA _ _ _ _ (a 4)).trans j,(ZA _ _ _ _ (a 5)).trans k,(ZA _ _ _ _ (a 6)).trans m⟩,
  by simpa using f0,by simpa using f1,by simpa using f2,by simpa using f3,by simpa using f4,by simpa using f5,by simpa using f6⟩
def pH(b:Nat){i j:Nat}(h:i≠j):(aD b i:Es)≠(aD b j):=λe=>h (by injection e)
def NB.setN(h:NB W g n e s l)(n':Bool):NB (W.setCell (aD g 0) (.bool n')) g n' e s l:=by
 obtain⟨⟨c0,a,b,c,d,f,i⟩,f0,f1,f2,f3,f4,f5,f6⟩:=h;have o:∀(j:Nat)(u:Aq),j≠0->W (aD g j)=some u->(W.setCell (aD g 0) (.bool n')) (aD g j)=some u:=λj u m k=>(ZA _ _ _ _ (pH g oM)).trans k;exact⟨⟨aav _ _ _ c0,o 1 _ dC a,o 2 _ dC b,o 3 _ dC c,o 4 _ dC d,o 5 _ dC f,o 6 _ dC i⟩,by simpa using f0,by simpa using f1,by simpa using f2,by simpa using f3,by simpa using f4,by simpa using f5,by simpa using f6⟩
def NB.setE(h:NB W g n e s l)(e':Int):NB (W.setCell (aD g 1) (iI e')) g n e' s l:=by
 obtain⟨⟨c0,a,b,c,d,f,i⟩,f0,f1,f2,f3,f4,f5,f6⟩:=h;have o:∀(j:Nat)(u:Aq),j≠1->W (aD g j)=some u->(W.setCell (aD g 1) (iI e')) (aD g j)=some u:=λj u m k=>(ZA _ _ _ _ (pH g oM)).trans k;exact⟨⟨o 0 _ dC c0,aav _ _ _ a,o 2 _ dC b,o 3 _ dC c,o 4 _ dC d,o 5 _ dC f,o 6 _ dC i⟩,by simpa using f0,by simpa using f1,by simpa using f2,by simpa using f3,by simpa using f4,by simpa using f5,by simpa using f6⟩
def NB.setL(h:NB W g n e s l)(l':Bool):NB (W.setCell (aD g 6) (.bool l')) g n e s l':=by
 obtain⟨⟨c0,a,b,c,d,f,i⟩,f0,f1,f2,f3,f4,f5,f6⟩:=h;have o:∀(j:Nat)(u:Aq),j≠6->W (aD g j)=some u->(W.setCell (aD g 6) (.bool l')) (aD g j)=some u:=λj u m k=>(ZA _ _ _ _ (pH g oM)).trans k;exact⟨⟨o 0 _ dC c0,o 1 _ dC a,o 2 _ dC b,o 3 _ dC c,o 4 _ dC d,o 5 _ dC f,aav _ _ _ i⟩,by simpa using f0,by simpa using f1,by simpa using f2,by simpa using f3,by simpa using f4,by simpa using f5,by simpa using f6⟩
def NB.setS(h:NB W g n e s l)(s':Nat):NB ((((W.setCell (aD g 2) (iU (wd 0 s'))).setCell (aD g 3) (iU (wd 1 s'))).setCell (aD g 4) (iU (wd 2 s'))).setCell (aD g 5) (iU (wd 3 s'))) g n e s' l:=by
 obtain⟨⟨c0,a,b,c,d,f,k⟩,f0,f1,f2,f3,f4,f5,f6⟩:=h;have o:∀(V:AK)(i j:Nat)(v u:Aq),i≠j->V (aD g j)=some u->(V.setCell (aD g i) v) (aD g j)=some u:=λV i j v u m p=>(ZA _ _ _ _ (pH g m)).trans p;refine⟨⟨?_,?_,?_,?_,?_,?_,?_⟩,by simpa using f0,by simpa using f1,by simpa using f2,by simpa using f3,by simpa using f4,by simpa using f5,by simpa using f6⟩
 .exact o _ _ _ _ _ dC (o _ _ _ _ _ dC (o _ _ _ _ _ dC (o _ _ _ _ _ dC c0)))
 .exact o _ _ _ _ _ dC (o _ _ _ _ _ dC (o _ _ _ _ _ dC (o _ _ _ _ _ dC a)))
 .exact o _ _ _ _ _ dC (o _ _ _ _ _ dC (o _ _ _ _ _ dC (aav _ _ _ b)))
 .exact o _ _ _ _ _ dC (o _ _ _ _ _ dC (aav _ _ _ (o _ _ _ _ _ dC c)))
 .exact o _ _ _ _ _ dC (aav _ _ _ (o _ _ _ _ _ dC (o _ _ _ _ _ dC d)))
 .exact aav _ _ _ (o _ _ _ _ _ dC (o _ _ _ _ _ dC (o _ _ _ _ _ dC f)))
 exact o _ _ _ _ _ dC (o _ _ _ _ _ dC (o _ _ _ _ _ dC (o _ _ _ _ _ dC k)))
def NB.put(h:NB W g n e s l)(n':Bool)(e':Int)(s':Nat)(l':Bool):NB (sC7 W g (.bool n') (iI e') (iU (wd 0 s')) (iU (wd 1 s')) (iU (wd 2 s')) (iU (wd 3 s')) (.bool l')) g n' e' s' l':=
 (((h.setN n').setE e').setS s').setL l'
def NB.farS(h:NB W g n e s l)(a:g'≠g)(b c d f:Aq):NB ((((W.setCell (aD g' 2) b).setCell (aD g' 3) c).setCell (aD g' 4) d).setCell (aD g' 5) f) g n e s l:=
 (((h.far (p:=aD g' _) a b).far (p:=aD g' _) a c).far (p:=aD g' _) a d).far (p:=aD g' _) a f
def NB.farP(h:NB W g n e s l)(a:g'≠g)(b c d f i j k:Aq):NB (sC7 W g' b c d f i j k) g n e s l:=
 ((((((h.far (p:=aD g' _) a b).far (p:=aD g' _) a c).far (p:=aD g' _) a d).far (p:=aD g' _) a f).far (p:=aD g' _) a i).far (p:=aD g' _) a j).far (p:=aD g' _) a k
end
theorem nB{P:Prop}(h:P:=by repeat'(first|with_reducible assumption|refine aeP ?_|refine aeQ ?_ _)):P:=h
end
section
variable{Y d h l q r u:Nat}
def qY(a:Y=h*4294967296+l)(q:Nat):q*Y=4294967296*(q*h)+q*l:=by rw[a,abl,<-Z3,Z1 (q*h)]
def MI(b:Y=h*4294967296+l)(c:u<Y)(e:d<4294967296)(f:q*h+r=u)(a:4294967296<=q\/4294967296*r+d<q*l):(u*4294967296+d)/Y<q:=by
 rw[Z4 oM];rcases a with a|a
 .have:4294967296*Y<=q*Y:=Z9 _ a;omega
 rw[qY b];omega
def JE(a:Y=h*4294967296+l)(c:u<Y)(e:q*h+r=u)(f:q*l<=4294967296*r+d)(b:(u*4294967296+d)/Y<=q):q=(u*4294967296+d)/Y:=by
 refine ab7 ?_ b;rw[aa9 oM,qY a];omega
def JF(a:Y=h*4294967296+l)(e:l<4294967296)(f:u<Y)(g:q*h+r=u)(b:q<=4294967296)(i:4294967296<=r)(c:(u*4294967296+d)/Y<=q):q=(u*4294967296+d)/Y:=by
 refine ab7 ?_ c;have j:q*l<=4294967296*4294967295:=aa0 b oM;rw[aa9 oM,qY a];omega
def Ae(a:Y=h*4294967296+l)(b:l<4294967296)(c:2147483648<=h)(e:u<Y):u/h<=4294967297:=by
 rw[<-Nat.lt_succ_iff,Z4 oM];show u<4294967298*h;omega
def JD(a:Y=h*4294967296+l)(c:2147483648<=h)(e:u<Y)(f:d<4294967296):(u*4294967296+d)/Y<=u/h:=by
 rw[<-Nat.lt_succ_iff,Z4 oM];have g:u<(u/h+1)*h:=by
  have b:=Nat.lt_mul_div_succ u (show 0<h by omega)
  rwa [Z1]at b
 rw[Nat.succ_eq_add_one,qY a];generalize(u/h+1)*h=p at*;generalize(u/h+1)*l=t at*;omega
def Ox(a:u<Y)(b:d<4294967296):(u*4294967296+d)/Y<4294967296:=by
 rw[Z4 oM];omega
def MJ{m b:Nat}(a:0<Y):
 m/Y*4294967296+(m%Y*4294967296+b)/Y=(m*4294967296+b)/Y/\(m%Y*4294967296+b)%Y=(m*4294967296+b)%Y:=by
 have e:m*4294967296+b=(m%Y*4294967296+b)+Y*(m/Y*4294967296):=by
  have:=abN m Y;rw[<-Z3];generalize Y*(m/Y)=p at*;omega
 constructor
 .rw[e,ab1 _ _ a,aco]
 rw[e,acg]
def Lh(q:Nat):Prop:=q<4294967296
def Li(q:Nat):Prop:=4294967296<=q
def mT(q:Nat):Lh q\/Li q:=aa8 _ _
def MX(h:Lh q):((4294967296:Int)<=q)=False:=eq_false (by unfold Lh at h;omega)
def J6(h:Li q):((4294967296:Int)<=q)=True:=eq_true (by unfold Li at h;omega)
def uD(h u Q q r:Nat):Prop:=q*h+r=u/\Q<=q/\q<=4294967297/\r<4294967296
def uC(r:Int):Nat:=4294967296-r.toNat
end
section
open Go.RowKit
variable{Y d h l q u x:Nat}
def below_drewN{B:Nat}{a w:AK}(h:Np B a w)(n:Nat):Np B a (w.drewN n):=⟨h.os,h.tape,h.output,h.size,h.block⟩
def Qv(a:Int):Na .and .u64 a 4294967295=a%4294967296:=pG a 32 dC
def eO(x:Int):∃t:Nat,IntKind.u64.wrap x=t:=⟨(IntKind.u64.wrap x).toNat,by rw[ZV];omega⟩
def zn{a b a' c:Int}(e:a=a')(f:b=c):Ending.returned (.tuple #[iU a,iU b])=.returned (.tuple #[iU a',iU c]):=by rw[e,f]
structure KD(Y h l u d:Nat):Prop where
 hY:Y=h*4294967296+l
 hl:l<4294967296
 hh:2147483648<=h
 hh2:h<4294967296
 hu:u<Y
 hd:d<4294967296
def Ag{r t1 t2 t3 m c:Nat}(k:KD Y h l u d)(g:uD h u ((u*4294967296+d)/Y) q r)
 (i:IntKind.u64.wrap ((q:Int)*l)=t1)(n:IntKind.u64.wrap (4294967296*(r:Int))=t2)(o:IntKind.u64.wrap ((t2:Int)+d)=t3)
 (s:IntKind.u64.wrap ((q:Int)-1)=m)(t:IntKind.u64.wrap ((r:Int)+h)=c):
 ((Li q\/t3<t1)->(Lh c->uD h u ((u*4294967296+d)/Y) m c)/\(Li c->m=(u*4294967296+d)/Y)/\uC c<uC r)/\
 (Lh q->¬t3<t1->q=(u*4294967296+d)/Y):=by
 obtain⟨e,A,K,L⟩:=g;obtain⟨v,E,M,F,w,G⟩:=k;rw[ZV]at i n o s t;have B:c=r+h:=oM;have e2:t2=4294967296*r:=oM;have C:t3=4294967296*r+d:=oM;have e1:q<4294967296->t1=q*l:=λa=>by
  have:q*l<=4294967295*4294967295:=aa0 oM oM;have H:((q*l:Nat):Int)=(q:Int)*l:=sM;rw[<-H]at i;omega
 constructor
 .intro f;have a:(u*4294967296+d)/Y<q:=by
   refine MI v w G e ?_;rcases aa8 q 4294967296 with j|j
   .rcases f with f|f
    .exact .inl f
    rw[e1 j,C]at f;exact .inr f
   exact .inl j
  have I:1<=q:=aam (Z7 _) a;have b:(u*4294967296+d)/Y<=q-1:=Nat.le_sub_one_of_lt a;clear A;have y:m=q-1:=by clear a b;omega
  rw[<-y]at b;have D:(q-1)*h+(r+h)=u:=by
   obtain⟨p,rfl⟩:∃p,q=p+1:=⟨q-1,oM⟩;rw[abm]at e;simp only[abt];omega
  refine⟨λz=>⟨by rw[y,B];exact D,b,by clear a b;omega,z⟩,λz=>JF (h:=h) (l:=l) (r:=c) v E w (by rw[y,B];exact D) (by clear a b;omega) z b,by unfold uC;simp only[aaB];omega⟩
 intro j J;rw[e1 j,C]at J;exact JE v w e oM A
attribute[local go_sem] Qv MX J6
def Hp(B C y s Y h l u D d1 d0 E J o g F K p L M:Nat)(N:U64 y)(h0:((B:Int)==0)=false)(O:((y:Int)==0)=false)(P:B<y)
 (hs:(64:Int)-(bl y:Int)=s)(Q:s<64)(hY:IntKind.u64.wrap ((y:Int)*2^s)=Y)(hh:(Y:Int)/4294967296=h)(hl:(Y:Int)%4294967296=l)
 (hu:Na .or .u64 (IntKind.u64.wrap ((B:Int)*2^s)) ((C:Int)/2^(64-s))=u)(R:IntKind.u64.wrap ((C:Int)*2^s)=D)(S:(D:Int)/4294967296=d1)(T:(D:Int)%4294967296=d0)
 (U:0<h)(hq:IntKind.u64.wrap ((u:Int)/h)=E)(hr:IntKind.u64.wrap ((u:Int)-IntKind.u64.wrap (E*h))=J)
 (V:KD Y h l u d1)(v:Hid ((u*4294967296+d1)/Y=o))(W:uD h u o E J)
 (X:IntKind.u64.wrap (IntKind.u64.wrap (IntKind.u64.wrap ((u:Int)*4294967296)+d1)-IntKind.u64.wrap (o*Y))=g)
 (Z:IntKind.u64.wrap ((g:Int)/h)=F)(aa:IntKind.u64.wrap ((g:Int)-IntKind.u64.wrap (F*h))=K)
 (k2:KD Y h l g d0)(z:Hid ((g*4294967296+d0)/Y=p))(g2:uD h g p F K)
 (hqq:IntKind.u64.wrap (IntKind.u64.wrap ((o:Int)*4294967296)+p)=L)(hrr:IntKind.u64.wrap (IntKind.u64.wrap (IntKind.u64.wrap ((g:Int)*4294967296)+d0)-IntKind.u64.wrap (p*Y))=M)(w:AK):
 Bf prog 156 #[iU B,iU C,iU y] w λe w'=>e=.returned (.tuple #[iU L,iU (M/2^s:Nat)])/\w=w':=by
 go_enter func156,ntmps156
 go_upto_block 0 with(go_at_call 150;refine gW (jo _ N _) ?_)
 go_cut[15,16] (λq _ H=>q=iU o/\w=H)
 case first=>
  go_wp2
  go_loop[15,16] (λx y=>∃q r:Nat,x=iU q/\y=iU r/\uD h u o q r) (λ_ y=>uC (intOf y))
  case atStart=>exact⟨_,_,rfl,rfl,W⟩
  obtain⟨q,r,rfl,rfl,I⟩:=hrel;obtain⟨t1,i⟩:∃t:Nat,IntKind.u64.wrap ((q:Int)*l)=t:=eO _;obtain⟨t2,j⟩:∃t:Nat,IntKind.u64.wrap (4294967296*(r:Int))=t:=eO _;obtain⟨t3,k⟩:∃t:Nat,IntKind.u64.wrap ((t2:Int)+d1)=t:=eO _;obtain⟨A,m⟩:∃t:Nat,IntKind.u64.wrap ((q:Int)-1)=t:=eO _;obtain⟨c,n⟩:∃t:Nat,IntKind.u64.wrap ((r:Int)+h)=t:=eO _;have G:=Ag V (by rw[v.out];exact I) i j k m n;rw[v.out]at G;have G:=Zp G;rcases mT q with a|a
  .by_cases f:t3<t1
   .rcases mT c with b|b
    .go_wp2
     go_round
     case rel=>exact⟨A,c,rfl,rfl,(G.out.1 (.inr f)).1 b⟩
     simp only[intOf];exact(G.out.1 (.inr f)).2.2
    go_wp2
    go_meet
    (first|exact⟨rfl,rfl⟩|exact⟨by rw[(G.out.1 (.inr f)).2.1 b],rfl⟩)
   go_wp2
   go_meet
   (first|exact⟨rfl,rfl⟩|exact⟨by rw[G.out.2 a f],rfl⟩)
  rcases mT c with b|b
  .go_wp2
   go_round
   case rel=>exact⟨A,c,rfl,rfl,(G.out.1 (.inl a)).1 b⟩
   simp only[intOf];exact(G.out.1 (.inl a)).2.2
  go_wp2
  go_meet
  (first|exact⟨rfl,rfl⟩|exact⟨by rw[(G.out.1 (.inl a)).2.1 b],rfl⟩)
 obtain⟨rfl,rfl⟩:=hcut
 go_upto_block 2 with(fail)
 go_cut[18,16] (λq _ H=>q=iU p/\w=H)
 case first=>
  go_wp2
  go_loop[18,16] (λx y=>∃q r:Nat,x=iU q/\y=iU r/\uD h g p q r) (λ_ y=>uC (intOf y))
  case atStart=>exact⟨_,_,rfl,rfl,g2⟩
  obtain⟨q,r,rfl,rfl,I⟩:=hrel;obtain⟨t1,i⟩:∃t:Nat,IntKind.u64.wrap ((q:Int)*l)=t:=eO _;obtain⟨t2,j⟩:∃t:Nat,IntKind.u64.wrap (4294967296*(r:Int))=t:=eO _;obtain⟨t3,k⟩:∃t:Nat,IntKind.u64.wrap ((t2:Int)+d0)=t:=eO _;obtain⟨A,m⟩:∃t:Nat,IntKind.u64.wrap ((q:Int)-1)=t:=eO _;obtain⟨c,n⟩:∃t:Nat,IntKind.u64.wrap ((r:Int)+h)=t:=eO _;have G:=Ag k2 (by rw[z.out];exact I) i j k m n;rw[z.out]at G;have G:=Zp G;rcases mT q with a|a
  .by_cases f:t3<t1
   .rcases mT c with b|b
    .go_wp2
     go_round
     case rel=>exact⟨A,c,rfl,rfl,(G.out.1 (.inr f)).1 b⟩
     simp only[intOf];exact(G.out.1 (.inr f)).2.2
    go_wp2
    go_meet
    (first|exact⟨rfl,rfl⟩|exact⟨by rw[(G.out.1 (.inr f)).2.1 b],rfl⟩)
   go_wp2
   go_meet
   (first|exact⟨rfl,rfl⟩|exact⟨by rw[G.out.2 a f],rfl⟩)
  rcases mT c with b|b
  .go_wp2
   go_round
   case rel=>exact⟨A,c,rfl,rfl,(G.out.1 (.inl a)).1 b⟩
   simp only[intOf];exact(G.out.1 (.inl a)).2.2
  go_wp2
  go_meet
  (first|exact⟨rfl,rfl⟩|exact⟨by rw[(G.out.1 (.inl a)).2.1 b],rfl⟩)
 obtain⟨rfl,rfl⟩:=hcut
 go_wp2
 go_ret2
 exact⟨zn rfl sM,rfl⟩
def Dt(b y:Nat)(f:((y:Int)==0)=false)(g:0<y)(a c:Nat)(k:(b:Int)/y=a)(i:(b:Int)%y=c)(j:IntKind.u64.wrap (a:Int)=a)(w:AK):
 Bf prog 156 #[iU 0,iU b,iU y] w λe w'=>e=.returned (.tuple #[iU a,iU c])/\Np w w w':=by
 go_enter func156,ntmps156
 go_wp2
 go_quiet(fail)
 go_wp2
 go_ret2
 exact⟨zn rfl i,below_drewN (Zx _ _) _⟩
def wrap_small(h:x<18446744073709551616):IntKind.u64.wrap (x:Int)=x:=by rw[ZV];omega
def wrap_mul{y:Nat}(h:x*y<18446744073709551616):IntKind.u64.wrap ((x:Int)*y)=((x*y:Nat):Int):=by
 rw[show(x:Int)*y=((x*y:Nat):Int)from by simp,wrap_small h]
def vj{Q:Nat}(f:Y<18446744073709551616)(a:0<Y)(b:Q=(u*4294967296+d)/Y):
 IntKind.u64.wrap (IntKind.u64.wrap (IntKind.u64.wrap ((u:Int)*4294967296)+d)-IntKind.u64.wrap (Q*Y))=((u*4294967296+d)%Y:Nat):=by
 have g:=aa1 (u*4294967296+d) a;have c:=abN (u*4294967296+d) Y;have e:((Y*Q:Nat):Int)=(Q:Int)*Y:=by rw[Z1];simp
 rw[<-b]at c;simp only[ZV];rw[<-e];generalize(u*4294967296+d)%Y=m at*;generalize Y*Q=p at*;omega
def so(e:u<18446744073709551616)(a:q=u/h):
 IntKind.u64.wrap ((u:Int)-IntKind.u64.wrap (q*h))=(u%h:Nat):=by
 have b:=abN u h;rw[<-a]at b;have c:((h*q:Nat):Int)=(q:Int)*h:=by rw[Z1];simp
 simp only[ZV];rw[<-c];generalize u%h=m at*;generalize h*q=p at*;omega
def EX{a b:Nat}(c:a<4294967296)(e:b<4294967296):IntKind.u64.wrap (IntKind.u64.wrap ((a:Int)*4294967296)+b)=((a*4294967296+b:Nat):Int):=by
 simp only[ZV];omega
def qW(k:KD Y h l u d):uD h u ((u*4294967296+d)/Y) (u/h) (u%h):=by
 obtain⟨a,e,b,f,c,g⟩:=k;have i:=abN u h;have j:=aa1 u (show 0<h by omega);exact⟨by rw[Z1];exact i,JD a b c g,Ae a e b c,oM⟩
def Hq(c a y:Nat)(k:U64 a)(A:U64 y)(n:c<y)(w:AK):
 Bf prog 156 #[iU c,iU a,iU y] w λe w'=>e=.returned (.tuple #[iU ((c*18446744073709551616+a)/y:Nat),iU ((c*18446744073709551616+a)%y:Nat)])/\Np w w w':=by
 have R:=k.out;have V:=A.out;by_cases W:c=0
 .subst W;have X:a/y<=a:=aaM _ _;have:=Dt a y (by rw[Zs];omega) oM (a/y) (a%y) sM sM (wrap_small oM) w;simpa using this
 have Z:=jl A;have aa:0<bl y:=ey.2 oM;obtain⟨s,hs⟩:∃s,s=64-bl y:=⟨_,rfl⟩;have g:s<64:=oM;have B:=aN y;have C:=fB (show y≠0 by omega);have D:2^bl y*2^s=18446744073709551616:=by rw[<-ZD,show bl y+s=64 from by omega]
 have E:2^(bl y-1)*2^s=9223372036854775808:=by rw[<-ZD,show bl y-1+s=63 from by omega]
 have F:y*2^s<18446744073709551616:=by rw[<-D];exact aax B (Zy s)
 have ab:9223372036854775808<=y*2^s:=by rw[<-E];exact Z9 _ C
 have ac:c*2^s<y*2^s:=aax n (Zy s);have el:a*2^s=sL a s+18446744073709551616*sH a s:=dc g;have eh:sL c s=c*2^s:=by have:=dc (x:=c) g;have:=ju c s;omega
 have G:sLH c a s=c*2^s+sH a s:=by unfold sLH;rw[eh]
 have hsl:=ju a s;have S:(c*18446744073709551616+a)*2^s=sLH c a s*18446744073709551616+sL a s:=by
  rw[G,abm,el,abR];omega
 have o:(c*18446744073709551616+a)*2^s<18446744073709551616*(y*2^s):=by
  rw[<-Z3];exact aax oM (Zy s)
 have H:sLH c a s<y*2^s:=by rw[S]at o;omega
 have I:Na .or .u64 (IntKind.u64.wrap ((c:Int)*2^s)) ((a:Int)/2^(64-s))=(sLH c a s:Nat):=by
  rw[rG,xY,Ci k g]
 have J:IntKind.u64.wrap ((y:Int)*2^s)=((y*2^s:Nat):Int):=by
  have:=wrap_mul (x:=y) (y:=2^s) F
  rwa [show(((2:Nat)^s:Nat):Int)=(2:Int)^s from by simp]at this
 have p:∀z:Nat,(c*18446744073709551616+a)*2^s=z->z/(y*2^s)=(c*18446744073709551616+a)/y/\z%(y*2^s)/2^s=(c*18446744073709551616+a)%y:=by
  intro z hz;subst hz;exact⟨abD _ _ (Zy s),by rw[acI,abT _ (Zy s)]⟩
 obtain⟨K,L⟩:=p _ S;clear p;generalize y*2^s=Y at*;generalize sLH c a s=u at*;generalize M:sL a s=f at*;have t:KD Y (Y/4294967296) (Y%4294967296) u (f/4294967296):=⟨oM,oM,oM,oM,H,oM⟩;have i:0<Y:=oM;have N:=aa1 (u*4294967296+f/4294967296) i;have v:KD Y (Y/4294967296) (Y%4294967296) ((u*4294967296+f/4294967296)%Y) (f%4294967296):=⟨oM,oM,oM,oM,N,oM⟩;have O:=Ox t.hu t.hd;have P:=Ox v.hu v.hd;have Q:=MJ (m:=u*4294967296+f/4294967296) (b:=f%4294967296) i;have j:(u*4294967296+f/4294967296)*4294967296+f%4294967296=u*18446744073709551616+f:=oM;rw[j]at Q;have T:u/(Y/4294967296)<=u:=aaM _ _;have U:(u*4294967296+f/4294967296)%Y/(Y/4294967296)<=(u*4294967296+f/4294967296)%Y:=aaM _ _;have r:=Hp c a y s Y (Y/4294967296) (Y%4294967296) u f (f/4294967296) (f%4294967296) (u/(Y/4294967296)) (u%(Y/4294967296)) ((u*4294967296+f/4294967296)/Y) ((u*4294967296+f/4294967296)%Y)
  ((u*4294967296+f/4294967296)%Y/(Y/4294967296)) ((u*4294967296+f/4294967296)%Y%(Y/4294967296)) (((u*4294967296+f/4294967296)%Y*4294967296+f%4294967296)/Y)
  ((u*18446744073709551616+f)/Y) ((u*18446744073709551616+f)%Y) A (by rw[Zs];omega) (by rw[Zs];omega) n
  oM g J sM sM I (by rw[rG,M]) sM sM oM
  (by rw[<-ady];exact wrap_small oM) (so oM rfl) t (Zp rfl) (qW t) (vj oM i rfl)
  (by rw[<-ady];exact wrap_small oM) (so oM rfl) v (Zp rfl) (qW v)
  (by rw[<-Q.1];exact EX O P) (by rw[<-Q.2];exact vj oM i rfl) w
 rw[K,L]at r;exact r.mono λe w' ⟨h1,h2⟩=>⟨h1,h2▸Zx _ _⟩
end
section
open Go.RowKit
variable{y:Nat}
@[irreducible]def dvQ(a b y:Nat):Nat:=(a*18446744073709551616+b)/y
@[irreducible]def dvR(a b y:Nat):Nat:=(a*18446744073709551616+b)%y
def oh(a b:Nat)(h:0<y):dvR a b y<y:=by unfold dvR;exact aa1 _ h
def xX{b c:Nat}(a:U64 c)(h:b<y):U64 (dvQ b c y):=by
 have:=a.out;unfold dvQ U64;rw[Z4 oM];omega
def rU(a b y:Nat):a*18446744073709551616+b=y*dvQ a b y+dvR a b y:=by unfold dvQ dvR;exact(abN _ _).symm
def r9(a b y:Nat)(c:U64 b)(f:U64 y)(d:a<y)(w:AK):
 Bf prog 156 #[iU a,iU b,iU y] w λe w'=>e=.returned (.tuple #[iU (dvQ a b y),iU (dvR a b y)])/\Np w w w':=by
 have:=Hq a b y c f d w;unfold dvQ dvR;exact this
def Ll(a y:Nat)(b:U64 a)(d:U64 y)(c:0<y)(w:AK):
 Bf prog 156 #[iU 0,iU a,iU y] w λe w'=>e=.returned (.tuple #[iU (dvQ 0 a y),iU (dvR 0 a y)])/\Np w w w':=r9 0 a y b d c w
def Je(d x y z t:Nat):d*of4 x y z t=of4 (d*x) (d*y) (d*z) (d*t):=by
 unfold of4;rw[abl,abl,abl,abo d,abo d,abo d]
def Nk{a b c d e f g h i j k l:Nat}(m:d=h+l)(s2:l*18446744073709551616+c=g+k)(s1:k*18446744073709551616+b=f+j)(n:j*18446744073709551616+a=e+i):
 a+18446744073709551616*b+340282366920938463463374607431768211456*c+6277101735386680763835789423207666416102355444464034512896*d=e+18446744073709551616*f+340282366920938463463374607431768211456*g+6277101735386680763835789423207666416102355444464034512896*h+i:=oM
def Kr{a d:Nat}(l:au a)(g:0<d):
 let b:=dvR 0 (wd 3 a) d
 let c:=dvR b (wd 2 a) d
 let f:=dvR c (wd 1 a) d
 W4 (a/d)=.agg #[iU (dvQ f (wd 0 a) d),iU (dvQ c (wd 1 a) d),iU (dvQ b (wd 2 a) d),iU (dvQ 0 (wd 3 a) d)]/\dvR f (wd 0 a) d=a%d:=by
 intro b c f;have e:=tv l;have m:wd 3 a=d*dvQ 0 (wd 3 a) d+b:=by have:=rU 0 (wd 3 a) d;rwa [abM,Z8]at this
 have s2:b*18446744073709551616+wd 2 a=d*dvQ b (wd 2 a) d+c:=rU b (wd 2 a) d;have s1:c*18446744073709551616+wd 1 a=d*dvQ c (wd 1 a) d+f:=rU c (wd 1 a) d;have n:=rU f (wd 0 a) d;have o:b<d:=oh 0 (wd 3 a) g;have l2:c<d:=oh b (wd 2 a) g;have l1:f<d:=oh c (wd 1 a) g;have k:=oh f (wd 0 a) g;have h:a=d*of4 (dvQ f (wd 0 a) d) (dvQ c (wd 1 a) d) (dvQ b (wd 2 a) d) (dvQ 0 (wd 3 a) d)+dvR f (wd 0 a) d:=by
  conv=>lhs;rw[<-e]
  rw[Je];unfold of4;exact Nk m s2 s1 n
 have i:a/d=of4 (dvQ f (wd 0 a) d) (dvQ c (wd 1 a) d) (dvQ b (wd 2 a) d) (dvQ 0 (wd 3 a) d):=by
  conv=>lhs;rw[h]
  rw[aeL g,aaG k,adn]
 have j:a%d=dvR f (wd 0 a) d:=by
  conv=>lhs;rw[h]
  rw[aeK,aac k]
 exact⟨by rw[i];exact cE (xX (ax _ _) l1) (xX (ax _ _) l2) (xX (ax _ _) o) (xX (ax _ _) g) rfl,j.symm⟩
def KR(x:Nat):((x:Int)!=0)=decide (x≠0):=by by_cases h:x=0<;>simp[h]
def EV(a d:Nat)(ha:au a)(hd:U64 d)(hd0:0<d)(w:AK):
 Bf prog 144 #[W4 a,.int .u64 d] w λe w'=>e=.returned (.tuple #[W4 (a/d),.bool (decide (a%d≠0))])/\Np w w w':=by
 obtain⟨e1,e2⟩:=Kr ha hd0;rw[e1,<-e2,<-KR];clear e1 e2;go_enter func144,ntmps144
 go_wp2
 refine aat 5 ?_;rw[Zu]
 go_wp2_with fail
 refine(Ll _ _ (ax _ _) hd hd0 _).mono ?_;rintro e w1⟨rfl,hb1⟩;have aJ:=(hb1).size;(try simp at aJ);have kL:(w:Nat)<w1:=(by omega);have kK:(w:Nat)+1<w1:=(by omega);have dB:w1 ⟨w,0,none⟩=some (.int .u64 (wd 0 a)):=cK hb1;have nf:w1.frozen? ⟨w,0,none⟩=false:=fK hb1;have dA:w1 ⟨w,1,none⟩=some (.int .u64 (wd 1 a)):=cK hb1;have mZ:w1.frozen? ⟨w,1,none⟩=false:=fK hb1;have dz:w1 ⟨w,2,none⟩=some (.int .u64 (wd 2 a)):=cK hb1;have mY:w1.frozen? ⟨w,2,none⟩=false:=fK hb1;have aD:w1 ⟨w,3,none⟩=some (.int .u64 (wd 3 a)):=cK hb1;have afI:w1.frozen? ⟨w,3,none⟩=false:=fK hb1;have iK:w1 ⟨w+1,0,none⟩=some (.int .u64 0):=cK hb1;have GM:w1.frozen? ⟨w+1,0,none⟩=false:=fK hb1;have iJ:w1 ⟨w+1,1,none⟩=some (.int .u64 0):=cK hb1;have GK:w1.frozen? ⟨w+1,1,none⟩=false:=fK hb1;have iG:w1 ⟨w+1,2,none⟩=some (.int .u64 0):=cK hb1;have GJ:w1.frozen? ⟨w+1,2,none⟩=false:=fK hb1;have aC:w1 ⟨w+1,3,none⟩=some (.int .u64 0):=cK hb1;have agl:w1.frozen? ⟨w+1,3,none⟩=false:=fK hb1
 go_wp2
 rw[Zu]
 go_wp2_with fail
 refine(r9 _ _ _ (ax _ _) hd (oh _ _ hd0) _).mono ?_;rintro e w2⟨rfl,hb2⟩;have aU:=(hb2).size;(try simp at aU);have kJ:(w:Nat)<w2:=(by omega);have kI:(w:Nat)+1<w2:=(by omega);have wq:w2 ⟨w,0,none⟩=some (.int .u64 (wd 0 a)):=cK hb2;have qB:w2.frozen? ⟨w,0,none⟩=false:=fK hb2;have wm:w2 ⟨w,1,none⟩=some (.int .u64 (wd 1 a)):=cK hb2;have pT:w2.frozen? ⟨w,1,none⟩=false:=fK hb2;have wj:w2 ⟨w,2,none⟩=some (.int .u64 (wd 2 a)):=cK hb2;have oM:w2.frozen? ⟨w,2,none⟩=false:=fK hb2;have cF:w2 ⟨w,3,none⟩=some (.int .u64 (dvQ 0 (wd 3 a) d)):=cK hb2;have afQ:w2.frozen? ⟨w,3,none⟩=false:=fK hb2;have Q6:w2 ⟨w+1,0,none⟩=some (.int .u64 0):=cK hb2;have gW:w2.frozen? ⟨w+1,0,none⟩=false:=fK hb2;have Q5:w2 ⟨w+1,1,none⟩=some (.int .u64 0):=cK hb2;have gB:w2.frozen? ⟨w+1,1,none⟩=false:=fK hb2;have Q4:w2 ⟨w+1,2,none⟩=some (.int .u64 0):=cK hb2;have sO:w2.frozen? ⟨w+1,2,none⟩=false:=fK hb2;have afy:w2 ⟨w+1,3,none⟩=some (.int .u64 0):=cK hb2;have agk:w2.frozen? ⟨w+1,3,none⟩=false:=fK hb2
 go_wp2
 rw[Zu]
 go_wp2_with fail
 refine(r9 _ _ _ (ax _ _) hd (oh _ _ hd0) _).mono ?_;rintro e w3⟨rfl,hb3⟩;have tG:=(hb3).size;(try simp at tG);have aff:(w:Nat)<w3:=(by omega);have afn:(w:Nat)+1<w3:=(by omega);have fH:w3 ⟨w,0,none⟩=some (.int .u64 (wd 0 a)):=cK hb3;have j7:w3.frozen? ⟨w,0,none⟩=false:=fK hb3;have gw:w3 ⟨w,1,none⟩=some (.int .u64 (wd 1 a)):=cK hb3;have j6:w3.frozen? ⟨w,1,none⟩=false:=fK hb3;have fG:w3 ⟨w,2,none⟩=some (.int .u64 (dvQ (dvR 0 (wd 3 a) d) (wd 2 a) d)):=cK hb3;have j5:w3.frozen? ⟨w,2,none⟩=false:=fK hb3;have afM:w3 ⟨w,3,none⟩=some (.int .u64 (dvQ 0 (wd 3 a) d)):=cK hb3;have agj:w3.frozen? ⟨w,3,none⟩=false:=fK hb3;have qe:w3 ⟨w+1,0,none⟩=some (.int .u64 0):=cK hb3;have GI:w3.frozen? ⟨w+1,0,none⟩=false:=fK hb3;have qd:w3 ⟨w+1,1,none⟩=some (.int .u64 0):=cK hb3;have GH:w3.frozen? ⟨w+1,1,none⟩=false:=fK hb3;have qc:w3 ⟨w+1,2,none⟩=some (.int .u64 0):=cK hb3;have GG:w3.frozen? ⟨w+1,2,none⟩=false:=fK hb3;have af9:w3 ⟨w+1,3,none⟩=some (.int .u64 0):=cK hb3;have agi:w3.frozen? ⟨w+1,3,none⟩=false:=fK hb3
 go_wp2
 rw[Zu]
 go_wp2_with fail
 refine(r9 _ _ _ (ax _ _) hd (oh _ _ hd0) _).mono ?_;rintro e w4⟨rfl,hb4⟩;have tF:=(hb4).size;(try simp at tF);have afe:(w:Nat)<w4:=(by omega);have afm:(w:Nat)+1<w4:=(by omega);have iC:w4 ⟨w,0,none⟩=some (.int .u64 (wd 0 a)):=cK hb4;have iN:w4.frozen? ⟨w,0,none⟩=false:=fK hb4;have iz:w4 ⟨w,1,none⟩=some (.int .u64 (dvQ (dvR (dvR 0 (wd 3 a) d) (wd 2 a) d) (wd 1 a) d)):=cK hb4;have iM:w4.frozen? ⟨w,1,none⟩=false:=fK hb4;have iy:w4 ⟨w,2,none⟩=some (.int .u64 (dvQ (dvR 0 (wd 3 a) d) (wd 2 a) d)):=cK hb4;have iL:w4.frozen? ⟨w,2,none⟩=false:=fK hb4;have af8:w4 ⟨w,3,none⟩=some (.int .u64 (dvQ 0 (wd 3 a) d)):=cK hb4;have agh:w4.frozen? ⟨w,3,none⟩=false:=fK hb4;have afL:w4 ⟨w+1,0,none⟩=some (.int .u64 0):=cK hb4;have agf:w4.frozen? ⟨w+1,0,none⟩=false:=fK hb4;have afK:w4 ⟨w+1,1,none⟩=some (.int .u64 0):=cK hb4;have age:w4.frozen? ⟨w+1,1,none⟩=false:=fK hb4;have afJ:w4 ⟨w+1,2,none⟩=some (.int .u64 0):=cK hb4;have agd:w4.frozen? ⟨w+1,2,none⟩=false:=fK hb4;have af7:w4 ⟨w+1,3,none⟩=some (.int .u64 0):=cK hb4;have agc:w4.frozen? ⟨w+1,3,none⟩=false:=fK hb4
 go_wp2
 rw[Zu]
 go_wp2
 refine aaT (v:=.tuple #[.agg #[_,_,_,_],.bool _]) (by simp[results,results144,go_sem, *]) rfl ⟨rfl,?_⟩;exact cB
end
section
open Go.RowKit
variable{W W1 w:AK}{a b c g s:Nat}{c1 c2 c3:Aq}{e:Int}{l n:Bool}
def NB.zeroD:NB (aC W #[.bool false,iI 0,iU 0,iU 0,iU 0,iU 0,.bool false] 182) W false 0 0 false:=by
 have:=NB.new (W:=W) (n:=false) (e:=0) (s:=0) (l:=false);have e:NO false 0 0 false=.cells #[.bool false,iI 0,iU 0,iU 0,iU 0,iU 0,.bool false] 182:=by simp only[NO,mA];rfl
 rw[e]at this;exact this
def aeR:=@NB.zeroD
def K4.lt{c0:Aq}(h:K4 W b c0 c1 c2 c3):b<W:=aaz _ _ h.1.1
def K4.call{c0:Aq}(h:K4 W b c0 c1 c2 c3)(d:Np W W W1):K4 W1 b c0 c1 c2 c3:=h.below d h.lt
def aeS:=@K4.call
def RB.stepB{m:Nat}(h:RB w m a b c W)(d:Np (w+2) W W1):RB w m a b c W1:=by
 obtain⟨⟨q,r,t,u⟩,⟨x,y,z⟩,⟨c0,c1,c2⟩,A,B⟩:=h;have k:∀(g i:Nat)(v:Aq),g<(w:Nat)+2->W (aD g i)=some v->W1 (aD g i)=some v:=λg i v j o=>by rw[d.cell (p:=aD g i) j];exact o
 have f:∀(g i:Nat),g<(w:Nat)+2->W.frozen? (aD g i)=false->W1.frozen? (aD g i)=false:=λg i j o=>by rw[d.frozen (p:=aD g i) j];exact o
 exact⟨⟨k _ _ _ oM q,k _ _ _ oM r,k _ _ _ oM t,k _ _ _ oM u⟩,⟨k _ _ _ oM x,k _ _ _ oM y,k _ _ _ oM z⟩,⟨f _ _ oM c0,f _ _ oM c1,f _ _ oM c2⟩,Zz A d.size,B.trans (d.mono oM)⟩
def Qq{B:Nat}{a:AK}(h:Np B a W)(d:B<=g)(f i j k m o q:Aq):Np B a (sC7 W g f i j k m o q):=
 ((((((h.setCell (p:=aD g _) d f).setCell (p:=aD g _) d i).setCell (p:=aD g _) d j).setCell (p:=aD g _) d k).setCell (p:=aD g _) d m).setCell (p:=aD g _) d o).setCell (p:=aD g _) d q
def RB.put7{m:Nat}(h:RB w m a b c W)(d:w+2<=g)(f i j k o p q:Aq):RB w m a b c (sC7 W g f i j k o p q):=
 h.stepB (Qq (Zx _ _) d _ _ _ _ _ _ _)
def NB.put4(h:NB W g n e s l)(d:b≠g)(f i j k:Aq):NB (sC4 W b f i j k) g n e s l:=(((h.far (p:=aD b 0) d f).far (p:=aD b 1) d i).far (p:=aD b 2) d j).far (p:=aD b 3) d k
def NB.zeroAt(h:W=g):NB (aC W #[.bool false,iI 0,iU 0,iU 0,iU 0,iU 0,.bool false] 182) g false 0 0 false:=h▸aeR
def aeT:=@NB.zeroAt
def NB.newAt(h:W=g):NB (aC W #[.bool n,iI e,iU (wd 0 s),iU (wd 1 s),iU (wd 2 s),iU (wd 3 s),.bool l] 182) g n e s l:=h▸NB.new
def aeU:=@NB.newAt
def NB.far7(h:NB W g n e s l)(d:b≠g)(f i j k m o q:Aq):NB (sC7 W b f i j k m o q) g n e s l:=((((((h.far (p:=aD b 0) d f).far (p:=aD b 1) d i).far (p:=aD b 2) d j).far (p:=aD b 3) d k).far (p:=aD b 4) d m).far (p:=aD b 5) d o).far (p:=aD b 6) d q
def NB.put7{d:Bool}{f:Int}{s':Nat}{l':Bool}(h:NB W g n e s l):NB (sC7 W g (.bool d) (iI f) (iU (wd 0 s')) (iU (wd 1 s')) (iU (wd 2 s')) (iU (wd 3 s')) (.bool l')) g d f s' l':=by
 obtain⟨⟨c0,c1,c2,c3,i,j,k⟩,f0,f1,f2,f3,f4,f5,f6⟩:=h;refine⟨⟨?_,?_,?_,?_,?_,?_,?_⟩,?_,?_,?_,?_,?_,?_,?_⟩<;>(go_simp;done)
def yB{j k:Nat}{r t:Bool}{u v:Int}{m o:Nat}(x:NB W j r u m false)(y:NB W k t v o false)(p:b≠j)(q:b≠k)(d f h i:Aq):(cF (sC4 W b d f h i) j 0 (Value.bool (r))/\cF (sC4 W b d f h i) j 1 (iI (u))/\cF (sC4 W b d f h i) j 2 (iU (wd 0 (m)))/\cF (sC4 W b d f h i) j 3 (iU (wd 1 (m)))/\cF (sC4 W b d f h i) j 4 (iU (wd 2 (m)))/\cF (sC4 W b d f h i) j 5 (iU (wd 3 (m)))/\cF (sC4 W b d f h i) j 6 (Value.bool (false)))/\(cF (sC4 W b d f h i) k 0 (Value.bool (t))/\cF (sC4 W b d f h i) k 1 (iI (v))/\cF (sC4 W b d f h i) k 2 (iU (wd 0 (o)))/\cF (sC4 W b d f h i) k 3 (iU (wd 1 (o)))/\cF (sC4 W b d f h i) k 4 (iU (wd 2 (o)))/\cF (sC4 W b d f h i) k 5 (iU (wd 3 (o)))/\cF (sC4 W b d f h i) k 6 (Value.bool (false))):=⟨(x.put4 p d f h i).1,(y.put4 q d f h i).1⟩
def RB.put4{m:Nat}(h:RB w m a b c W)(d:w+2<=g)(f i j k:Aq):RB w m a b c (sC4 W g f i j k):=
 h.stepB (((((Zx _ _).setCell (p:=aD g _) d f).setCell (p:=aD g _) d i).setCell (p:=aD g _) d j).setCell (p:=aD g _) d k)
def Ku(op m a b c:Nat)(f:PC 42 #[.int .u64 a] (.int .i64 3))(h:PC 42 #[.int .u64 b] (.int .i64 3))(i:Nat)(p:Na .and .u64 (Na .xor .u64 (a:Int) (b:Int)) 9223372036854775808=i)(w:AK):
 Bf prog 133 #[REC op m a b c] w (ai 9221120237041090560 16 false w):=by
 go_enter func133,ntmps133;go_upto_region 2 with(fail);go_cut[4] (λs j=>s=pT (w+1+1) 0/\(aC (aC (aC w #[.int .u8 op,.int .u8 m,.int .u64 a,.int .u64 b,.int .u64 c] 59) #[.int .u64 0,.int .u8 0,.bool false] 56) #[.int .i64 3,.int .i64 3] 113).drew=j)
 case first=>
  go_region_held3(λw'=>(w' (aD w 2)=some (.int .u64 a)/\w' (aD w 3)=some (.int .u64 b)))
   (first
    |(refine⟨?_,?_⟩<;>(go_simp;done))
    |go_keep)
   (first
    |(go_at_call_of 42 (Value.int IntKind.u64 a);refine gW (f.out _) ?_)
    |(go_at_call_of 42 (Value.int IntKind.u64 b);refine gW (h.out _) ?_))
  all_goals(go_wp2_with fail;go_meet;exact⟨rfl,rfl⟩)
 obtain⟨rfl,rfl⟩:=hcut
 go_wp2_with(go_at_call 61;refine gB (cP _) λq d=>?_;obtain⟨k,o⟩:=de d)
 all_goals exact bR ⟨rfl,cB⟩
def Kt(op m a b c:Nat)(f:PC 42 #[.int .u64 a] (.int .i64 0))(h:PC 42 #[.int .u64 b] (.int .i64 0))(i:Nat)(p:Na .and .u64 (Na .xor .u64 (a:Int) (b:Int)) 9223372036854775808=i)(w:AK):
 Bf prog 133 #[REC op m a b c] w (ai 9221120237041090560 16 false w):=by
 go_enter func133,ntmps133;go_upto_region 2 with(fail);go_cut[4] (λs j=>s=pT (w+1+1) 0/\(aC (aC (aC w #[.int .u8 op,.int .u8 m,.int .u64 a,.int .u64 b,.int .u64 c] 59) #[.int .u64 0,.int .u8 0,.bool false] 56) #[.int .i64 0,.int .i64 0] 113).drew=j)
 case first=>
  go_region_held3(λw'=>(w' (aD w 2)=some (.int .u64 a)/\w' (aD w 3)=some (.int .u64 b)))
   (first
    |(refine⟨?_,?_⟩<;>(go_simp;done))
    |go_keep)
   (first
    |(go_at_call_of 42 (Value.int IntKind.u64 a);refine gW (f.out _) ?_)
    |(go_at_call_of 42 (Value.int IntKind.u64 b);refine gW (h.out _) ?_))
  all_goals(go_wp2_with fail;go_meet;exact⟨rfl,rfl⟩)
 obtain⟨rfl,rfl⟩:=hcut
 go_wp2_with(go_at_call 61;refine gB (cP _) λq d=>?_;obtain⟨k,o⟩:=de d)
 all_goals exact bR ⟨rfl,cB⟩
def Nl(op m a b c d:Nat)(j:PC 42 #[.int .u64 a] (.int .i64 3))(k:PC 42 #[.int .u64 b] (.int .i64 (d:Int)))(f:Nat)(p:Na .and .u64 (Na .xor .u64 (a:Int) (b:Int)) 9223372036854775808=f)(h:Nat)(q:Na .or .u64 (f:Int) 9218868437227405312=h)(i:((d:Int)==3)=false)(w:AK):
 Bf prog 133 #[REC op m a b c] w (ai h 0 false w):=by
 go_enter func133,ntmps133;go_upto_region 2 with(fail);go_cut[4] (λs o=>s=pT (w+1+1) 0/\(aC (aC (aC w #[.int .u8 op,.int .u8 m,.int .u64 a,.int .u64 b,.int .u64 c] 59) #[.int .u64 0,.int .u8 0,.bool false] 56) #[.int .i64 3,.int .i64 (d:Int)] 113).drew=o)
 case first=>
  go_region_held3(λw'=>(w' (aD w 2)=some (.int .u64 a)/\w' (aD w 3)=some (.int .u64 b)))
   (first
    |(refine⟨?_,?_⟩<;>(go_simp;done))
    |go_keep)
   (first
    |(go_at_call_of 42 (Value.int IntKind.u64 a);refine gW (j.out _) ?_)
    |(go_at_call_of 42 (Value.int IntKind.u64 b);refine gW (k.out _) ?_))
  all_goals(go_wp2_with fail;go_meet;exact⟨rfl,rfl⟩)
 obtain⟨rfl,rfl⟩:=hcut
 go_wp2_with fail
 all_goals exact bR ⟨rfl,cB⟩
def Qm(op m a b c d:Nat)(i:PC 42 #[.int .u64 a] (.int .i64 (d:Int)))(j:PC 42 #[.int .u64 b] (.int .i64 3))(f:Nat)(o:Na .and .u64 (Na .xor .u64 (a:Int) (b:Int)) 9223372036854775808=f)(h:((d:Int)==3)=false)(w:AK):
 Bf prog 133 #[REC op m a b c] w (ai f 0 false w):=by
 go_enter func133,ntmps133;go_upto_region 2 with(fail);go_cut[4] (λs k=>s=pT (w+1+1) 0/\(aC (aC (aC w #[.int .u8 op,.int .u8 m,.int .u64 a,.int .u64 b,.int .u64 c] 59) #[.int .u64 0,.int .u8 0,.bool false] 56) #[.int .i64 (d:Int),.int .i64 3] 113).drew=k)
 case first=>
  go_region_held3(λw'=>(w' (aD w 2)=some (.int .u64 a)/\w' (aD w 3)=some (.int .u64 b)))
   (first
    |(refine⟨?_,?_⟩<;>(go_simp;done))
    |go_keep)
   (first
    |(go_at_call_of 42 (Value.int IntKind.u64 a);refine gW (i.out _) ?_)
    |(go_at_call_of 42 (Value.int IntKind.u64 b);refine gW (j.out _) ?_))
  all_goals(go_wp2_with fail;go_meet;exact⟨rfl,rfl⟩)
 obtain⟨rfl,rfl⟩:=hcut
 go_wp2_with fail
 all_goals exact bR ⟨rfl,cB⟩
def Ql(op m a b c d:Nat)(j:PC 42 #[.int .u64 a] (.int .i64 0))(k:PC 42 #[.int .u64 b] (.int .i64 (d:Int)))(f:Nat)(p:Na .and .u64 (Na .xor .u64 (a:Int) (b:Int)) 9223372036854775808=f)(h:((d:Int)==3)=false)(i:((d:Int)==0)=false)(w:AK):
 Bf prog 133 #[REC op m a b c] w (ai f 0 false w):=by
 go_enter func133,ntmps133;go_upto_region 2 with(fail);go_cut[4] (λs o=>s=pT (w+1+1) 0/\(aC (aC (aC w #[.int .u8 op,.int .u8 m,.int .u64 a,.int .u64 b,.int .u64 c] 59) #[.int .u64 0,.int .u8 0,.bool false] 56) #[.int .i64 0,.int .i64 (d:Int)] 113).drew=o)
 case first=>
  go_region_held3(λw'=>(w' (aD w 2)=some (.int .u64 a)/\w' (aD w 3)=some (.int .u64 b)))
   (first
    |(refine⟨?_,?_⟩<;>(go_simp;done))
    |go_keep)
   (first
    |(go_at_call_of 42 (Value.int IntKind.u64 a);refine gW (j.out _) ?_)
    |(go_at_call_of 42 (Value.int IntKind.u64 b);refine gW (k.out _) ?_))
  all_goals(go_wp2_with fail;go_meet;exact⟨rfl,rfl⟩)
 obtain⟨rfl,rfl⟩:=hcut
 go_wp2_with fail
 all_goals exact bR ⟨rfl,cB⟩
def Qo(op m a b c d:Nat)(k:PC 42 #[.int .u64 a] (.int .i64 (d:Int)))(o:PC 42 #[.int .u64 b] (.int .i64 0))(f:Nat)(q:Na .and .u64 (Na .xor .u64 (a:Int) (b:Int)) 9223372036854775808=f)(h:Nat)(r:Na .or .u64 (f:Int) 9218868437227405312=h)(i:((d:Int)==3)=false)(j:((d:Int)==0)=false)(w:AK):
 Bf prog 133 #[REC op m a b c] w (ai h 8 false w):=by
 go_enter func133,ntmps133;go_upto_region 2 with(fail);go_cut[4] (λs p=>s=pT (w+1+1) 0/\(aC (aC (aC w #[.int .u8 op,.int .u8 m,.int .u64 a,.int .u64 b,.int .u64 c] 59) #[.int .u64 0,.int .u8 0,.bool false] 56) #[.int .i64 (d:Int),.int .i64 0] 113).drew=p)
 case first=>
  go_region_held3(λw'=>(w' (aD w 2)=some (.int .u64 a)/\w' (aD w 3)=some (.int .u64 b)))
   (first
    |(refine⟨?_,?_⟩<;>(go_simp;done))
    |go_keep)
   (first
    |(go_at_call_of 42 (Value.int IntKind.u64 a);refine gW (k.out _) ?_)
    |(go_at_call_of 42 (Value.int IntKind.u64 b);refine gW (o.out _) ?_))
  all_goals(go_wp2_with fail;go_meet;exact⟨rfl,rfl⟩)
 obtain⟨rfl,rfl⟩:=hcut
 go_wp2_with fail
 all_goals exact bR ⟨rfl,cB⟩
def Qn(op m a b c T U:Nat)(Ka:PC 42 #[.int .u64 a] (.int .i64 (T:Int)))(Kb:PC 42 #[.int .u64 b] (.int .i64 (U:Int)))(sg:Nat)(hx:Na .and .u64 (Na .xor .u64 (a:Int) (b:Int)) 9223372036854775808=sg)(M O ng lq:Bool)(L S E:Int)(J K N Q bt fl:Nat)(Ua:BC 141 #[.int .u64 a] (NV M L J false))(Ub:BC 141 #[.int .u64 b] (NV O S K false))(SH:BC 145 #[W4 J,.int .i64 150] (W4 N))
 (DV:BC 144 #[W4 N,.int .u64 (wd 0 K)] (.tuple #[W4 Q,.bool lq]))
 (hng:(M !=O)=ng)(hE1:Nq (L-150)=L-150)(hE:Nq (L-150-S)=E)(R:Hid (∀W,Bf prog 143 #[NV ng E Q lq,.int .u8 m] W (ai bt fl false W)))(hka0:((T:Int)==0)=false)(hka3:((T:Int)==3)=false)(hkb0:((U:Int)==0)=false)(hkb3:((U:Int)==3)=false)(w:AK):
 Bf prog 133 #[REC op m a b c] w (ai bt fl false w):=by
 go_enter func133,ntmps133;go_upto_region 2 with(fail);go_cut[4] (λs C=>s=pT (w+1+1) 0/\(aC (aC (aC w #[.int .u8 op,.int .u8 m,.int .u64 a,.int .u64 b,.int .u64 c] 59) #[.int .u64 0,.int .u8 0,.bool false] 56) #[.int .i64 (T:Int),.int .i64 (U:Int)] 113).drew=C)
 case first=>
  go_region_held3(λw'=>(w' (aD w 2)=some (.int .u64 a)/\w' (aD w 3)=some (.int .u64 b)))
   (first
    |(refine⟨?_,?_⟩<;>(go_simp;done))
    |go_keep)
   (first
    |(go_at_call_of 42 (Value.int IntKind.u64 a);refine gW (Ka.out _) ?_)
    |(go_at_call_of 42 (Value.int IntKind.u64 b);refine gW (Kb.out _) ?_))
  all_goals(go_wp2_with fail;go_meet;exact⟨rfl,rfl⟩)
 obtain⟨rfl,rfl⟩:=hcut;have J2:RB w m a b c (aC (aC (aC w #[.int .u8 op,.int .u8 m,.int .u64 a,.int .u64 b,.int .u64 c] 59) #[.int .u64 0,.int .u8 0,.bool false] 56) #[.int .i64 T,.int .i64 U] 113):=((aeG op).alloc _);have eo:RB w m a b c (aC (aC (aC w #[.int .u8 op,.int .u8 m,.int .u64 a,.int .u64 b,.int .u64 c] 59) #[.int .u64 0,.int .u8 0,.bool false] 56) #[.int .i64 T,.int .i64 U] 113).drew:=((aeG op).alloc _).drew;go_upto_region 11 with(fail);go_cut[5,6] (λs5 s6 C=>∃D F:Nat,s5=pT D 0/\s6=pT F 0/\NB C D M L J false/\NB C F O S K false/\RB w m a b c C)
 case first=>
  go_region_held3(λw'=>(w' (aD w 1)=some (.int .u8 m)/\w' (aD w 2)=some (.int .u64 a)/\w' (aD w 3)=some (.int .u64 b)/\w' (aD w 4)=some (.int .u64 c)))
   (first
    |with_reducible exact j8
    |with_reducible exact j9
    |with_reducible exact eo.1
    |(refine⟨?_,?_,?_,?_⟩<;>(go_simp;done))
    |go_keep)
   (first
    |(go_at_call_of 141 (Value.int IntKind.u64 a);refine gB (Ua.out _) λw1 d=>?_;have dP:RB w m a b c w1:=aeE rb1 d;have kh:=dP;obtain⟨j9,⟨qk,qi,qg⟩,⟨qu,qo,qm⟩,_⟩:=kh;have aJ:=d.size;(try simp at aJ);have afk:(w:Nat)+1<w1:=oM;have afi:(w:Nat)<w1:=oM;(try((first|have fA:=aeH (aeR) d|have fA:=aeH (aeP (aeR)) d|have fA:=aeH (aeP (aeP (aeR))) d);(try simp at fA);have As:=fA.lt;have iX:=fA;obtain⟨⟨h,i,j,k,u,v,x⟩,o,p,q,r,y,z,A⟩:=fA));(try((first|have fx:=aeH (aeQ aeR _) d|have fx:=aeH (aeP (aeQ aeR _)) d|have fx:=aeH (aeP (aeP (aeQ aeR _))) d);(try simp at fx);have Ao:=fx.lt;have iV:=fx;obtain⟨⟨h,i,j,k,u,v,x⟩,o,p,q,r,y,z,A⟩:=fx));(try((first|have be:=aeH iW d|have be:=aeH (aeQ iW _) d|have be:=aeH (aeQ (aeQ iW _) _) d);(try simp at be);have o6:=be.lt;have si:=be;obtain⟨⟨h,i,j,k,u,v,x⟩,o,p,q,r,y,z,A⟩:=be));(try((first|have bc:=aeH iT d|have bc:=aeH (aeQ iT _) d|have bc:=aeH (aeQ (aeQ iT _) _) d);(try simp at bc);have o4:=bc.lt;have se:=bc;obtain⟨⟨h,i,j,k,u,v,x⟩,o,p,q,r,y,z,A⟩:=bc)))
    |(go_at_call_of 141 (Value.int IntKind.u64 b);refine gB (Ub.out _) λw2 f=>?_;have fT:RB w m a b c w2:=aeE rb1 f;have kg:=fT;obtain⟨j8,⟨qj,qh,qf⟩,⟨qp,qn,ql⟩,_⟩:=kg;have aU:=f.size;(try simp at aU);have afj:(w:Nat)+1<w2:=oM;have afh:(w:Nat)<w2:=oM;(try((first|have fy:=aeH (aeR) f|have fy:=aeH (aeP (aeR)) f|have fy:=aeH (aeP (aeP (aeR))) f);(try simp at fy);have Ap:=fy.lt;have iW:=fy;obtain⟨⟨h,i,j,k,u,v,x⟩,o,p,q,r,y,z,A⟩:=fy));(try((first|have fw:=aeH (aeQ aeR _) f|have fw:=aeH (aeP (aeQ aeR _)) f|have fw:=aeH (aeP (aeP (aeQ aeR _))) f);(try simp at fw);have Am:=fw.lt;have iT:=fw;obtain⟨⟨h,i,j,k,u,v,x⟩,o,p,q,r,y,z,A⟩:=fw));(try((first|have bf:=aeH iX f|have bf:=aeH (aeQ iX _) f|have bf:=aeH (aeQ (aeQ iX _) _) f);(try simp at bf);have o7:=bf.lt;have sj:=bf;obtain⟨⟨h,i,j,k,u,v,x⟩,o,p,q,r,y,z,A⟩:=bf));(try((first|have bd:=aeH iV f|have bd:=aeH (aeQ iV _) f|have bd:=aeH (aeQ (aeQ iV _) _) f);(try simp at bd);have o5:=bd.lt;have sf:=bd;obtain⟨⟨h,i,j,k,u,v,x⟩,o,p,q,r,y,z,A⟩:=bd))))
  all_goals
   go_wp2_with fail
   go_meet;refine⟨_,_,rfl,rfl,?_,?_,by repeat'(first|with_reducible assumption|with_reducible refine RB.drew ?_|with_reducible refine aeF ?_ _|with_reducible refine RB.put7 ?_ oM _ _ _ _ _ _ _)⟩
   .repeat'(first|with_reducible assumption|with_reducible refine NB.put7 (n:=false) (e:=0) (s:=0) (l:=false) ?_|with_reducible refine NB.far7 ?_ oM _ _ _ _ _ _ _|with_reducible exact aeT (by first|rfl|(simp;done))|with_reducible exact aeU (by first|rfl|(simp;done))|with_reducible refine aeQ ?_ _|with_reducible refine aeP ?_)
   repeat'(first|with_reducible assumption|with_reducible refine NB.put7 (n:=false) (e:=0) (s:=0) (l:=false) ?_|with_reducible refine NB.far7 ?_ oM _ _ _ _ _ _ _|with_reducible exact aeT (by first|rfl|(simp;done))|with_reducible exact aeU (by first|rfl|(simp;done))|with_reducible refine aeQ ?_ _|with_reducible refine aeP ?_)
 obtain⟨D,F,rfl,rfl,p5,p6,hK⟩:=hcut;clear eo;have q5:=p5;have q6:=p6;have X:=hK.1.1;obtain⟨⟨x0,x1,x2,x3,x4,x5,x6⟩,Y,Z,aa,ab,ac,ag,am⟩:=q5;obtain⟨⟨y0,y1,y2,y3,y4,y5,y6⟩,ao,ap,ar,av,aw,aM,aR⟩:=q6;go_upto_region 12 with(fail);go_cut[7,8] (λs7 s8 C=>∃V:Nat,s7=pT V 0/\s8=.bool lq/\(C (aD V 0)=some (.int .u64 (wd 0 Q))/\C (aD V 1)=some (.int .u64 (wd 1 Q))/\C (aD V 2)=some (.int .u64 (wd 2 Q))/\C (aD V 3)=some (.int .u64 (wd 3 Q)))/\NB C D M L J false/\NB C F O S K false/\RB w m a b c C)
 case first=>
  have uW:=And.intro p5.1 p6.1;have hl5:=p5.lt;have hl6:=p6.lt;have hzX:=hK.2.2.2.1
  go_region_held3(λw'=>(w' (aD D 0)=Value.bool (M)/\w' (aD D 1)=some (Value.int .i64 (L))/\w' (aD D 2)=some (Value.int .u64 (wd 0 (J)))/\w' (aD D 3)=some (Value.int .u64 (wd 1 (J)))/\w' (aD D 4)=some (Value.int .u64 (wd 2 (J)))/\w' (aD D 5)=some (Value.int .u64 (wd 3 (J)))/\w' (aD D 6)=Value.bool (false))/\(w' (aD F 0)=Value.bool (O)/\w' (aD F 1)=some (Value.int .i64 (S))/\w' (aD F 2)=some (Value.int .u64 (wd 0 (K)))/\w' (aD F 3)=some (Value.int .u64 (wd 1 (K)))/\w' (aD F 4)=some (Value.int .u64 (wd 2 (K)))/\w' (aD F 5)=some (Value.int .u64 (wd 3 (K)))/\w' (aD F 6)=Value.bool (false)))
   (first
    |with_reducible exact CN
    |with_reducible exact yB Ml Mk oM oM _ _ _ _
    |with_reducible exact yB (Ml.alloc _) (Mk.alloc _) (by first|(simp;omega)|omega) (by first|(simp;omega)|omega) _ _ _ _
    |with_reducible exact CO
    |with_reducible exact uW
    |go_keep)
   (first
    |(go_at_call 145;refine gB (SH.out _) λw3 B=>?_;have SF:NB w3 D M L J false:=aeH nB B;have SE:NB w3 F O S K false:=aeH nB B;have CO:=And.intro SF.1 SE.1;have Ya:=SF.lt;have X8:=SE.lt;have hK3:RB w m a b c w3:=aeE rb1 B;have tG:=B.size;(try simp at tG);(try((first|have G:=aeS (aeD _ _ _ _ _ _) B|have G:=aeS (aeB (aeD _ _ _ _ _ _)) B|have G:=aeS (aeB (aeB (aeD _ _ _ _ _ _))) B);(try simp at G);have P:=G;have PR:=G.lt;obtain⟨⟨h,i,j,k⟩,o,p,q,r⟩:=G)))
    |(go_at_call 144;refine gB (DV.out _) λw4 t=>?_;have Ml:NB w4 D M L J false:=aeH nB t;have Mk:NB w4 F O S K false:=aeH nB t;have CN:=And.intro Ml.1 Mk.1;have X9:=Ml.lt;have X7:=Mk.lt;have hK4:RB w m a b c w4:=aeE rb1 t;have tF:=t.size;(try simp at tF);(try((first|have H:=aeS (aeD _ _ _ _ _ _) t|have H:=aeS (aeB (aeD _ _ _ _ _ _)) t|have H:=aeS (aeB (aeB (aeD _ _ _ _ _ _))) t);(try simp at H);have zq4k:=H;have PQ:=H.lt;obtain⟨⟨h,i,j,k⟩,o,p,q,r⟩:=H));(try((first|have I:=aeS P t|have I:=aeS (aeB P) t);(try simp at I);have zq5k:=I;have PO:=I.lt;obtain⟨⟨h,i,j,k⟩,o,p,q,r⟩:=I))))
  all_goals
   go_wp2_with fail
   go_meet;refine⟨_,rfl,rfl,?_,by repeat'(first|with_reducible assumption|with_reducible refine aeP ?_|with_reducible refine aeQ ?_ _|with_reducible refine NB.put4 ?_ oM _ _ _ _),by repeat'(first|with_reducible assumption|with_reducible refine aeP ?_|with_reducible refine aeQ ?_ _|with_reducible refine NB.put4 ?_ oM _ _ _ _),by repeat'(first|with_reducible assumption|with_reducible refine RB.drew ?_|with_reducible refine aeF ?_ _|with_reducible refine RB.put4 ?_ oM _ _ _ _)⟩;refine⟨?_,?_,?_,?_⟩<;>(go_simp;done)
 obtain⟨V,rfl,rfl,⟨z0,z1,z2,z3⟩,p5',p6',aS⟩:=hcut;clear p5 p6 hK X x0 x1 x2 x3 x4 x5 x6 Y Z aa ab ac ag am y0 y1 y2 y3 y4 y5 y6 ao ap ar av aw aM aR SH DV;have X:=aS.1.1;obtain⟨⟨x0,x1,x2,x3,x4,x5,x6⟩,Y,Z,aa,ab,ac,ag,am⟩:=p5';obtain⟨⟨y0,y1,y2,y3,y4,y5,y6⟩,ao,ap,ar,av,aw,aM,aR⟩:=p6'
 go_wp2_with fail
 have a0:(!(M==O))=ng:=hng;rw[a0];refine gB (R.out _) λw5 hb5=>?_;have a1:=aS.step hb5;have hL5:=a1;obtain⟨_,⟨k0,k1,k2⟩,⟨f0,f1,f2⟩,_⟩:=hL5
 go_wp2_with fail
 refine bR ⟨rfl,?_⟩;exact a1.laid _ _ _
end
section
open Go.RowKit
def zl(n l u:Bool)(e q P K H:Int)(s N x:Nat)
 (L:BC 152 #[W4 s] (iI (bl s)))
 (v:IntKind.i64.wrap (254-(bl s:Int))=q)(M:IntKind.i64.wrap (e-q)=e-q)(O:Na .and .i64 (e-q) 1=P)(hK:IntKind.i64.wrap (q-P)=K)(Q:Nq (e-K)=e-K)(hH:(e-K).tdiv 2=H)(R:Nq H=H)
 (y:BC 145 #[W4 s,iI K] (W4 N))
 (RT:BC 157 #[W4 N] (.tuple #[.agg #[iU (wd 0 x),iU (wd 1 x)],.bool u]))
 (w:AK):
 Bf prog 146 #[NV n e s l] w λe w'=>e=.returned (.agg #[.bool false,iI H,iU (wd 0 x),iU (wd 1 x),iU 0,iU 0,.bool (u||l)])/\Np w w w':=by
 go_enter func146,ntmps146;go_upto_region 3 with(go_at_call 152;refine gB (L.out _) λz a=>?_;have p1:NB z w n e s l:=(by first|exact aeH (aeQ NB.new _) a|exact aeH (aeP (aeQ NB.new _)) a);have p2:NB z (w+1) false 0 0 false:=(by first|exact aeH (aeT sM) a|exact aeH (aeP (aeT sM)) a);have f:Np w w z:=cB;clear a;have b:=p1;obtain⟨⟨A,B,C,D,E,F,G⟩,h,i,j,k,m,o,p⟩:=p1);clear L v M O hK;go_cut[4,5] (λS T r=>∃g:Nat,S=pT g 0/\T=.bool u/\(cF r g 0 (iU (wd 0 x))/\cF r g 1 (iU (wd 1 x)))/\NB r w n e s l/\NB r (w+1) false 0 0 false/\Np w w r)
 case first=>
  go_wp2_with fail
  refine gB (y.out _) λI c=>?_;have Pg:NB I w n e s l:=aeH b c;have SG:NB I (w+1) false 0 0 false:=aeH p2 c;have t:Np w w I:=f.trans (c.mono (abw b.lt));clear c y b p2 f A B C D E F G h i j k m o p
  go_wp2_with fail
  refine gB (RT.out _) λJ d=>?_;have Wl:NB J w n e s l:=aeH Pg d;have Wk:NB J (w+1) false 0 0 false:=aeH SG d;have U:=Wk.lt;have V:=Wl.lt;have W:Np w w J:=t.trans (d.mono (abw Pg.lt));clear d RT Pg SG t
  go_wp2_with fail
  go_meet;refine⟨_,rfl,rfl,?_,by repeat'(first|with_reducible assumption|with_reducible refine aeP ?_|with_reducible refine aeQ ?_ _|with_reducible refine NB.put2 ?_ oM _ _),by repeat'(first|with_reducible assumption|with_reducible refine aeP ?_|with_reducible refine aeQ ?_ _|with_reducible refine NB.put2 ?_ oM _ _),by exact cB⟩;refine⟨?_,?_⟩<;>(go_simp;done)
 obtain⟨g,rfl,rfl,⟨z0,z1⟩,q1,X,Y⟩:=hcut;clear b p2 f A B C D E F G h i j k m o p y RT;obtain⟨⟨A,B,C,D,E,F,G⟩,h,i,j,k,m,o,p⟩:=q1;obtain⟨⟨y0,y1,y2,y3,y4,y5,y6⟩,Z,aa,ab,ac,ag,am,ao⟩:=X
 go_wp2_with fail
 all_goals
  exact bR ⟨rfl,cB⟩
end
section
open Go.RowKit
attribute[local go_sem] uj Dk cV eR gM ij jA oW oZ
def nq(a b:Nat)(c:au a)(d:au b)(w:AK):
 Bf prog 162 #[W4 a,W4 b] w λe w'=>e=.returned (.tuple #[W4 (jW a b),.bool (decide (a<b))])/\Np w w w':=by
 go_enter func162,ntmps162
 go_wp2
 refine aat 5 ?_;rw[Zu]
 go_wp2
 go_region
 go_wp2
 rw[Zu]
 go_wp2
 go_region
 go_wp2
 rw[Zu]
 go_wp2
 go_region
 go_wp2
 rw[Zu]
 go_wp2
 go_region
 go_wp2
 rw[Zu]
 go_wp2
 obtain⟨e1,e2⟩:=HV c d;rw[e1,<-e2];refine bR ⟨rfl,?_⟩;repeat(first|exact Zx _ _|refine adE ?_|refine adh ?_ sD _|refine acH ?_ sD _)
def Oi(a b:Nat)(c:au a)(d:au b)(h:au (a+b))(w:AK):
 Bf prog 161 #[W4 a,W4 b] w λe w'=>e=.returned (W4 (a+b))/\Np w w w':=by
 go_enter func161,ntmps161
 go_wp2
 refine aat 5 ?_;rw[Zu]
 go_wp2
 go_region
 go_wp2
 rw[Zu]
 go_wp2
 go_region
 go_wp2
 rw[Zu]
 go_wp2
 go_region
 go_wp2
 rw[Zu]
 go_wp2
 go_region
 go_wp2
 rw[Zu]
 go_wp2
 rw[K9 c d h];refine bR ⟨rfl,?_⟩;repeat(first|exact Zx _ _|refine adE ?_|refine adh ?_ sD _|refine acH ?_ sD _)
end
section
open Go.RowKit
def mw(a b:Nat)(d:au a)(f:au b)(w:AK):
 Bf prog 158 #[W4 a,W4 b] w λe w'=>e=.returned (.bool (decide (a<b)))/\Np w w w':=by
 go_enter func158,ntmps158
 go_wp2_with(go_at_call 162;refine gB (nq a b d f _) λg c=>?_;obtain⟨Yj,Yi⟩:=Qu c;have aJ:=(c).size;(try simp at aJ))
 go_ret
 refine⟨rfl,?_⟩;exact cB
@[irreducible]def nA(n k:Nat):Nat:=n/2^k%2
def r6(n k:Nat):nA n k<=1:=by unfold nA;omega
def pC{n:Nat}(q r:Nat)(b:r<64):wd q n/2^r%2=n/2^(64*q+r)%2:=by
 unfold wd;rw[ZD,<-Z2];generalize n/2^(64*q)=m;have a:18446744073709551616=2^r*(2*2^(63-r)):=by
  rw[<-Nat.pow_succ',<-ZD,show r+(63-r+1)=64 from by omega]
 rw[a,acQ,acJ]
def NJ(x r:Nat):Na .and .u64 ((x:Int)/2^r) 1=(x/2^r%2:Nat):=by
 rw[and_1];simp
attribute[local go_sem] NJ
def Vr(n:Nat)(k:Int)(c:0<=k)(d:k/64=0)(r:Nat)(f:k%64=r)(a:r<64)(x:Nat)(b:Hid (wd 0 n/2^r%2=x))(w:AK):
 Bf prog 165 #[W4 n,iI k] w λe w'=>e=.returned (iU x)/\Np w w w':=by
 go_enter func165,ntmps165
 go_wp2
 go_ret
 refine⟨eY ?_,?_⟩
 .rw[<-b.out];simp
 exact cB
def Vq(n:Nat)(k:Int)(c:0<=k)(d:k/64=1)(r:Nat)(f:k%64=r)(a:r<64)(x:Nat)(b:Hid (wd 1 n/2^r%2=x))(w:AK):
 Bf prog 165 #[W4 n,iI k] w λe w'=>e=.returned (iU x)/\Np w w w':=by
 go_enter func165,ntmps165
 go_wp2
 go_ret
 refine⟨eY ?_,?_⟩
 .rw[<-b.out];simp
 exact cB
def Vp(n:Nat)(k:Int)(c:0<=k)(d:k/64=2)(r:Nat)(f:k%64=r)(a:r<64)(x:Nat)(b:Hid (wd 2 n/2^r%2=x))(w:AK):
 Bf prog 165 #[W4 n,iI k] w λe w'=>e=.returned (iU x)/\Np w w w':=by
 go_enter func165,ntmps165
 go_wp2
 go_ret
 refine⟨eY ?_,?_⟩
 .rw[<-b.out];simp
 exact cB
def Vo(n:Nat)(k:Int)(c:0<=k)(d:k/64=3)(r:Nat)(f:k%64=r)(a:r<64)(x:Nat)(b:Hid (wd 3 n/2^r%2=x))(w:AK):
 Bf prog 165 #[W4 n,iI k] w λe w'=>e=.returned (iU x)/\Np w w w':=by
 go_enter func165,ntmps165
 go_wp2
 go_ret
 refine⟨eY ?_,?_⟩
 .rw[<-b.out];simp
 exact cB
def EW(n:Nat)(k:Int)(b:0<=k)(d:k<256)(w:AK):
 Bf prog 165 #[W4 n,iI k] w λe w'=>e=.returned (iU (nA n k.toNat))/\Np w w w':=by
 have c:k%64=((k%64).toNat:Int):=oM;have a:k/64=0\/k/64=1\/k/64=2\/k/64=3:=oM;rcases a with a|a|a|a
 .exact Vr n k b a _ c oM _ (by rw[pC 0 _ oM,show 64*0+(k%64).toNat=k.toNat from by omega];unfold nA;rfl) w
 .exact Vq n k b a _ c oM _ (by rw[pC 1 _ oM,show 64*1+(k%64).toNat=k.toNat from by omega];unfold nA;rfl) w
 .exact Vp n k b a _ c oM _ (by rw[pC 2 _ oM,show 64*2+(k%64).toNat=k.toNat from by omega];unfold nA;rfl) w
 exact Vo n k b a _ c oM _ (by rw[pC 3 _ oM,show 64*3+(k%64).toNat=k.toNat from by omega];unfold nA;rfl) w
end
section
variable{a j r x:Nat}
def gF(a x r:Nat)(k:Int):Prop:=x*x+r=a/2^(k+2).toNat/\r<=2*x
def cZ(a j:Nat):Nat:=2*nA a (j+1)+nA a j
def nQ(a j:Nat):cZ a j<4:=by
 have:=r6 a (j+1);have:=r6 a j;unfold cZ;omega
def HA(a j:Nat):a/2^j=4*(a/2^(j+2))+cZ a j:=by
 unfold cZ nA;have e1:a/2^(j+1)=a/2^j/2:=by rw[aaO,Z2]
 have e2:a/2^(j+2)=a/2^j/4:=by rw[ZD,Z2]
 rw[e1,e2];omega
def uM(b:au a):gF a 0 0 254:=by
 unfold gF;have:a/2^((254:Int)+2).toNat=0:=aaG b;rw[this];exact⟨rfl,Zo _⟩
def Cc(b:au a)(h:gF a x r j):x<2^127/\r<2^128:=by
 obtain⟨c,g⟩:=h;have e:((j:Int)+2).toNat=j+2:=oM;rw[e]at c;have d:a/2^(j+2)<2^254:=by
  rw[Z4 (Zy _),<-ZD];exact ZB b.out (aaa dC oM)
 have f:x<2^127:=by
  rcases aa8 x (2^127)with h|h
  .exact h
  have:=aa0 h h;omega
 exact⟨f,oM⟩
def FM(h:gF a x r j):
 (r*4+cZ a j<x*4+1->gF a (x*2) (r*4+cZ a j) ((j:Int)-2))/\
 (¬r*4+cZ a j<x*4+1->gF a (x*2+1) (r*4+cZ a j-(x*4+1)) ((j:Int)-2)):=by
 obtain⟨b,d⟩:=h;have e:((j:Int)+2).toNat=j+2:=oM;have e2:((j:Int)-2+2).toNat=j:=oM;rw[e]at b;unfold gF;rw[e2,HA a j,<-b];have f:=nQ a j;have p1:x*2*(x*2)=4*(x*x):=by rw[Z3,abo 2 x 2,Z1 2 2,<-Z3,Z1]
 have p2:(x*2+1)*(x*2+1)=4*(x*x)+4*x+1:=by
  rw[abm,abl,p1];omega
 rw[p1,p2];generalize x*x=s at*;exact⟨λc=>⟨oM,oM⟩,λc=>⟨oM,oM⟩⟩
def Ik(h:gF a x r (-2)):x*x+r=a/\r<=2*x:=by
 obtain⟨b,c⟩:=h;exact⟨by simpa using b,c⟩
def xu(b:au a)(h:gF a x r j):
 fO r 2=r*4/\fO x 2=x*4/\fO x 1=x*2/\au r/\au x/\au (r*4+cZ a j)/\au (x*4+1)/\au (x*2+1):=by
 obtain⟨c,d⟩:=Cc b h;have e:=nQ a j;refine⟨js ?_,js ?_,js ?_,?_,?_,?_,?_,?_⟩<;>unfold au<;>omega
def Mn(a j:Nat):Na .or .u64 (IntKind.u64.wrap ((nA a (j+1):Int)*2)) (nA a j:Int)=(cZ a j:Nat):=by
 have b:=r6 a (j+1);have c:=r6 a j;rw[show IntKind.u64.wrap ((nA a (j+1):Int)*2)=((nA a (j+1)*2:Nat):Int)from by rw[ZV];omega];rw[acB _ _ oM oM,ael 1 _ _ oM oM];unfold cZ;omega
end
section
open Go.RowKit
variable{x:Nat}
def U62(x:Nat):Prop:=x<4611686018427387904
def U62.out(h:U62 x):x<4611686018427387904:=h
def U62.word(h:U62 x):IsW (x:Int):=by have:=h.out;unfold IsW;omega
@[irreducible]def sq(x:Nat):Nat:=x*x
@[irreducible]def cb(x:Nat):Nat:=x*x*x
def Oj(h:U62 x):sq x<2^124:=by
 have h:=h.out;unfold sq;have:x*x<=4611686018427387903*4611686018427387903:=aa0 oM oM;omega
def UI(h:U62 x):cb x<2^186:=by
 have a:=Oj h;have h:=h.out;unfold sq at a;unfold cb;have:x*x*x<=(2^124-1)*4611686018427387903:=aa0 oM oM;omega
def yf(h:U62 x):au (cb x):=by have:=UI h;unfold au;omega
def QW(h:U62 x)(w:AK):
 Bf prog 151 #[.agg #[iU x,iU 0],.agg #[iU x,iU 0]] w λe w'=>e=.returned (W4 (sq x))/\Np w w w':=by
 have:=yx h.word eR h.word eR w;have e:(((x:Int)+18446744073709551616*0)*((x:Int)+18446744073709551616*0)).toNat=sq x:=by
  unfold sq;rw[Int.mul_zero,acY,<-ac8,aaB]
 rw[e]at this;exact this
def QX(h:U62 x)(w:AK):
 Bf prog 151 #[.agg #[iU (wd 0 (sq x)),iU (wd 1 (sq x))],.agg #[iU x,iU 0]] w λe w'=>e=.returned (W4 (cb x))/\Np w w w':=by
 have:=yx (cV 0 (sq x)) (cV 1 (sq x)) h.word eR w;have e:(((wd 0 (sq x):Int)+18446744073709551616*wd 1 (sq x))*((x:Int)+18446744073709551616*0)).toNat=cb x:=by
  have b:=Oj h;have a:(wd 0 (sq x):Int)+18446744073709551616*wd 1 (sq x)=(sq x:Nat):=by rw[wd0,wd1];omega
  rw[a,Int.mul_zero,acY,<-ac8,aaB];unfold sq cb;rfl
 rw[e]at this;exact this
def qz(x:Nat)(h:U62 x)(w:AK):
 Bf prog 159 #[iU x] w λe w'=>e=.returned (W4 (cb x))/\Np w w w':=by
 go_enter func159,ntmps159
 go_wp2_with fail
 refine(QW h _).mono ?_;rintro e c⟨rfl,a⟩;have aJ:=(a).size;(try simp at aJ);have kL:(w:Nat)<c:=oM;obtain⟨cD,cC⟩:=bcC (w+1) a
 go_wp2_with fail
 refine(QX h _).mono ?_;rintro e d⟨rfl,b⟩;have aU:=(b).size;(try simp at aU);have kJ:(w:Nat)<d:=oM;obtain⟨en,ei⟩:=bcC (w+1) b
 go_wp2
 refine aaT (v:=.agg #[_,_,_,_]) (by simp[results,results159,go_sem, *]) rfl ⟨rfl,?_⟩;exact cB
end
end Go.Proofs.YtldmbneckcjonaaDoor
