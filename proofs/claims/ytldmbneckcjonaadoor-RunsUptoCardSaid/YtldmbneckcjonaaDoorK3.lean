/- A part of the proof. -/
import Derived.Test.YtldmbneckcjonaaDoorK2
set_option linter.defProp false
set_option linter.unusedVariables false
set_option linter.unusedSimpArgs false
set_option maxRecDepth 100000
set_option maxHeartbeats 8000000
noncomputable section
namespace Go.Proofs.YtldmbneckcjonaaDoor
open Go renaming World->AK,Value->Aq,Goroutine->Ar,Calls->Bf,undef->C0,Addr->Es,TypeId->E1,Program->E2,stepG->KC,Frame->K0,execOp->Lk,bits->Na,Event->Nc
open Go.RowKit renaming Below->Np,wrap64->Nq
open Go.Proofs.Tryd
section
open Go.RowKit
variable{a x:Nat}
def lj(a x:Nat)(k:Int):Prop:=x%2^(k+1).toNat=0/\cb x<=a/\a<cb (x+2^(k+1).toNat)/\x+2^(k+1).toNat<=4611686018427387904
def vg(b:a<2^186):lj a 0 61:=by
 refine⟨rfl,by unfold cb;omega,?_,dC⟩;rw[show(0:Nat)+2^((61:Int)+1).toNat=4611686018427387904 from rfl];unfold cb;omega
def zy(j:Nat):2^(j+1)=2*2^j:=by rw[aaO,Z1]
def yc{j:Nat}(h:lj a x j):
 (a<cb (x+2^j)->lj a x ((j:Int)-1))/\(¬a<cb (x+2^j)->lj a (x+2^j) ((j:Int)-1))/\x+2^j<4611686018427387904/\x%2^(j+1)=0:=by
 obtain⟨b,f,c,g⟩:=h;have e1:((j:Int)+1).toNat=j+1:=oM;have e2:((j:Int)-1+1).toNat=j:=oM;unfold lj;rw[e2];rw[e1]at b c g;have l:=zy j;have i:=Zy j;have d:x%2^j=0:=adl (Nat.dvd_trans (aeJ 2 (ade j)) (Nat.dvd_of_mod_eq_zero b));have k:x+2^j+2^j=x+2^(j+1):=oM;exact⟨λe=>⟨d,f,e,oM⟩,λe=>⟨by rw[Nat.add_mod_right];exact d,oM,by rw[k];exact c,oM⟩,oM,b⟩
def AQ(h:lj a x (-1)):cb x<=a/\a<cb (x+1)/\U62 x:=by
 obtain⟨_,c,b,d⟩:=h;have e:(2:Nat)^((-1:Int)+1).toNat=1:=rfl;rw[e]at b d;exact⟨c,b,by unfold U62;omega⟩
def Pe{a a':Int}{b c:Bool}(d:a=a')(e:b=c):Ending.returned (.tuple #[iU a,.bool b])=.returned (.tuple #[iU a',.bool c]):=by rw[d,e]
def Oh(a:Nat)(b:AK)(e:Ending)(w:AK):Prop:=∃x:Nat,e=.returned (.tuple #[iU x,.bool (decide (cb x≠a))])/\cb x<=a/\a<cb (x+1)/\U62 x/\Np b b w
attribute[local go_sem] ph yf
def Lm(a:Nat)(D:au a)(z:Hid (a<2^186))(w:AK):
 Bf prog 147 #[W4 a] w (Oh a w):=by
 go_enter func147,ntmps147
 go_wp2
 go_loopw[4,5,6] (λx i _ wr=>∃(k:Int)(n:Nat),x=.int .u64 n/\i=.int .i64 k/\-1<=k/\k<=61/\Hid (lj a n k)/\Hid (C4 wr w a)/\Np w w wr/\(w:Nat)<wr) (λ_ i _ _=>(intOf i+1).toNat)
 case atStart=>
  refine⟨61,0,rfl,rfl,oM,oM,vg z.out,?_,?_,sM⟩
  .refine⟨⟨?_,?_,?_,?_⟩,?_,?_,?_,?_⟩<;>go_simp
  exact cB
 obtain⟨k,n,rfl,rfl,F,G,E,t,o,u⟩:=hrel;by_cases H:0<=k
 .obtain⟨j,rfl⟩:=aaQ H;obtain⟨f,g,p,q⟩:=yc E.out;have f:=Zp f;have g:=Zp g;have v:U62 (n+2^j):=p;have I:Na .or .u64 (n:Int) (IntKind.u64.wrap (2^j))=((n+2^j:Nat):Int):=by
   have N:2^j<4611686018427387904:=oM;have e2:(2:Int)^j=((2^j:Nat):Int):=sM;rw[e2,show IntKind.u64.wrap ((2^j:Nat):Int)=((2^j:Nat):Int)from by rw[ZV];omega];exact Pj q oM
  clear p q;generalize J:n+2^j=y at*;obtain⟨⟨c0,K,L,M⟩,f0,f1,f2,f3⟩:=t.out;by_cases r:a<cb y
  .go_wp2
   go_region_held3(λw'=>w' ⟨w,0,none⟩=some (.int .u64 (wd 0 a))/\w' ⟨w,1,none⟩=some (.int .u64 (wd 1 a))/\w' ⟨w,2,none⟩=some (.int .u64 (wd 2 a))/\w' ⟨w,3,none⟩=some (.int .u64 (wd 3 a)))
   (first
    |(refine⟨?_,?_,?_,?_⟩<;>(go_simp;done))
    |go_keep
    |(refine⟨?_,?_,?_,?_⟩<;>(rw[d.cell sD];go_simp;done))
    |(refine⟨?_,?_,?_,?_⟩<;>(rw[b.cell sD];go_simp;done)))
   (first
    |(go_at_call 159;refine gB (qz _ v _) λA b=>?_;have e:=b.size;(try simp at e))
    |(go_at_call 158;refine gB (mw _ _ D (yf v) _) λB d=>?_;have l:=d.size;(try simp at l)))
   go_wp2
   have c:Np wr wr B:=(Zx _ _).drew.trans (b.trans (d.mono b.size))
   go_roundw
   case rel=>exact⟨(j:Int)-1,n,rfl,by go_num,oM,oM,f.out r,aey t.out (by exact c) u,adg o (adD c (by exact o.size)),ZB u c.size⟩
   simp only[intOf];omega
  go_wp2
  go_region_held3(λw'=>w' ⟨w,0,none⟩=some (.int .u64 (wd 0 a))/\w' ⟨w,1,none⟩=some (.int .u64 (wd 1 a))/\w' ⟨w,2,none⟩=some (.int .u64 (wd 2 a))/\w' ⟨w,3,none⟩=some (.int .u64 (wd 3 a)))
  (first
   |(refine⟨?_,?_,?_,?_⟩<;>(go_simp;done))
   |go_keep
   |(refine⟨?_,?_,?_,?_⟩<;>(rw[d.cell sD];go_simp;done))
   |(refine⟨?_,?_,?_,?_⟩<;>(rw[b.cell sD];go_simp;done)))
  (first
   |(go_at_call 159;refine gB (qz _ v _) λA b=>?_;have e:=b.size;(try simp at e))
   |(go_at_call 158;refine gB (mw _ _ D (yf v) _) λB d=>?_;have l:=d.size;(try simp at l)))
  go_wp2
  have c:Np wr wr B:=(Zx _ _).drew.trans (b.trans (d.mono b.size))
  go_roundw
  case rel=>exact⟨(j:Int)-1,y,rfl,by go_num,oM,oM,g.out r,aey t.out (by exact c) u,adg o (adD c (by exact o.size)),ZB u c.size⟩
  simp only[intOf];omega
 obtain rfl:k=-1:=oM;obtain⟨C,m,s⟩:=AQ E.out;have m:=Zp m;obtain⟨⟨c0,K,L,M⟩,f0,f1,f2,f3⟩:=t.out
 go_wp2
 go_region_held3(λw'=>w' ⟨w,0,none⟩=some (.int .u64 (wd 0 a))/\w' ⟨w,1,none⟩=some (.int .u64 (wd 1 a))/\w' ⟨w,2,none⟩=some (.int .u64 (wd 2 a))/\w' ⟨w,3,none⟩=some (.int .u64 (wd 3 a)))
  (first
   |(refine⟨?_,?_,?_,?_⟩<;>(go_simp;done))
   |go_keep
   |(refine⟨?_,?_,?_,?_⟩<;>(rw[d.cell sD];go_simp;done))
   |(refine⟨?_,?_,?_,?_⟩<;>(rw[b.cell sD];go_simp;done)))
  (first
   |(go_at_call 159;refine gB (qz _ s _) λA b=>?_;have e:=b.size;(try simp at e))
   )
 go_wp2
 go_ret2
 refine⟨n,?_,C,m.out,s,?_⟩
 .exact Pe rfl (by by_cases h:cb n=a<;>simp[h])
 have c:Np wr wr A:=(Zx _ _).drew.trans b;exact o.trans (c.mono o.size)
end
section
open Go.RowKit
def Od(a:Nat)(b:AK)(e:Ending)(w:AK):Prop:=∃x r:Nat,e=.returned (.tuple #[.agg #[iU (wd 0 x),iU (wd 1 x)],.bool (decide (r≠0))])/\x*x+r=a/\r<=2*x/\Np b b w
attribute[local go_sem] ph tS
def Lc(a:Nat)(ha:au a)(w:AK):
 Bf prog 157 #[W4 a] w (Od a w):=by
 go_enter func157,ntmps157
 go_wp2
 go_loopw[6,7] (λi _ wr=>∃(k:Int)(x r:Nat),i=.int .i64 k/\-2<=k/\k<=254/\k%2=0/\Hid (gF a x r k)/\Hid (C4 wr w a)/\Hid (C4 wr (w+1+1) x)/\Hid (C4 wr (w+1+1+1) r)/\
  Hid (wr ⟨w+1,0,none⟩=some (.int .u64 0)/\wr ⟨w+1,1,none⟩=some (.int .u64 0)/\wr.frozen? ⟨w+1,0,none⟩=false/\wr.frozen? ⟨w+1,1,none⟩=false)/\Np w w wr/\(w:Nat)+1+1+1<wr) (λi _ _=>(intOf i+2).toNat)
 case atStart=>
  refine⟨254,0,0,rfl,oM,oM,oM,uM ha,?_,?_,?_,?_,?_,sM⟩
  .refine⟨⟨?_,?_,?_,?_⟩,?_,?_,?_,?_⟩<;>go_simp
  .refine⟨⟨?_,?_,?_,?_⟩,?_,?_,?_,?_⟩<;>(try rw[mA])<;>go_simp
  .refine⟨⟨?_,?_,?_,?_⟩,?_,?_,?_,?_⟩<;>(try rw[mA])<;>go_simp
  .refine⟨?_,?_,?_,?_⟩<;>go_simp
  exact cB
 obtain⟨k,x,r,rfl,hk0,hk1,hk2,hI,hCa,ab,ac,d,hB,hz⟩:=hrel;by_cases hk:0<=k
 .obtain⟨j,rfl⟩:=aaQ hk;obtain⟨e1,e2,e3,ur,ux,uR,uT,uX⟩:=xu ha hI.out;obtain⟨ag,C⟩:=FM hI.out;have hv:=nQ a j;have C1:=λW=>da r ur 2 oM oM W;have C2:=λW=>da x ux 2 oM oM W;have C3:=λW=>da x ux 1 oM oM W;rw[show(2:Int).toNat=2 from rfl,e1]at C1;rw[show(2:Int).toNat=2 from rfl,e2]at C2;rw[show(1:Int).toNat=1 from rfl,e3]at C3;have q0:=PF (n:=r*4) (v:=cZ a j) oM hv;have q1:=Tj (n:=r*4) (v:=cZ a j) oM hv;have q2:=Ti (n:=r*4) (v:=cZ a j) oM hv;have q3:=Th (n:=r*4) (v:=cZ a j) oM hv;have t0:=Ee (n:=x*4) oM;have t1:=(Jw (n:=x*4) oM).symm;have t2:=(Jv (n:=x*4) oM).symm;have t3:=(Ju (n:=x*4) oM).symm;have s0:=Ee (n:=x*2) oM;have s1:=Jw (n:=x*2) oM;have s2:=Jv (n:=x*2) oM;have s3:=Ju (n:=x*2) oM;have am:Na .or .u64 (wd 0 (r*4):Nat) (Na .or .u64 (IntKind.u64.wrap ((nA a (j+1):Int)*2)) (nA a j:Int))=(wd 0 (r*4+cZ a j):Nat):=by rw[Mn a j];exact q0
  have am:=Zp am;clear q0;clear e1 e2 e3 hv;have hj:(j:Int)<=254:=hk1;generalize r*4+cZ a j=Rv at*;generalize cZ a j=v at*;generalize r*4=b at*;generalize x*4+1=T at*;generalize x*4=X4 at*;generalize x*2+1=X3 at*;generalize x*2=c at*;have K:True:=trivial;have C1:=Zp C1;have C2:=Zp C2;have C3:=Zp C3;have ag:=Zp ag;have C:=Zp C;have s0:=Zp s0;have s1:=Zp s1;have s2:=Zp s2;have s3:=Zp s3;have gA:=hCa.out;have gX:=ab.out;have gR:=ac.out;clear hCa ab ac;obtain⟨⟨G,H,I,J⟩,l,m,o,q⟩:=id gR;have gA:=Zp gA;have gX:=Zp gX;have gR:=Zp gR
  go_wp2_with fail
  refine gB (C1.out _) λw1 E=>?_;clear G H I J l m o q;have hz1:(w:Nat)+1+1+1<w1:=ZB hz E.size;have gA1:=Zp (gA.out.below E oM);have gX1:=Zp (gX.out.below E oM);have gR1:=Zp (gR.out.below E oM);have hB1:Np (w+1+1) wr w1:=E.mono oM;obtain⟨⟨G,H,I,J⟩,l,m,o,q⟩:=id gR1.out;go_upto_region 6 with(fail);clear G H I J l m o q;have L:=Zp (gR1.out.put (.int .u64 (wd 0 b)) (.int .u64 (wd 1 b)) (.int .u64 (wd 2 b)) (.int .u64 (wd 3 b)));have ao:Hid (C4 ((((w1.setCell ⟨w+1+1+1,0,none⟩ (.int .u64 (wd 0 b))).setCell ⟨w+1+1+1,1,none⟩ (.int .u64 (wd 1 b))).setCell ⟨w+1+1+1,2,none⟩ (.int .u64 (wd 2 b))).setCell ⟨w+1+1+1,3,none⟩ (.int .u64 (wd 3 b))) (w+1+1) x):=(((gX1.out.far (by simp<;>omega) _).far (by simp<;>omega) _).far (by simp<;>omega) _).far (by simp<;>omega) _;have M:Hid (C4 ((((w1.setCell ⟨w+1+1+1,0,none⟩ (.int .u64 (wd 0 b))).setCell ⟨w+1+1+1,1,none⟩ (.int .u64 (wd 1 b))).setCell ⟨w+1+1+1,2,none⟩ (.int .u64 (wd 2 b))).setCell ⟨w+1+1+1,3,none⟩ (.int .u64 (wd 3 b))) w a):=(((gA1.out.far (by simp<;>omega) _).far (by simp<;>omega) _).far (by simp<;>omega) _).far (by simp<;>omega) _;have hB2:Np (w+1+1) wr ((((w1.setCell ⟨w+1+1+1,0,none⟩ (.int .u64 (wd 0 b))).setCell ⟨w+1+1+1,1,none⟩ (.int .u64 (wd 1 b))).setCell ⟨w+1+1+1,2,none⟩ (.int .u64 (wd 2 b))).setCell ⟨w+1+1+1,3,none⟩ (.int .u64 (wd 3 b))):=by
   repeat(first|exact Zx _ _|assumption|refine adE ?_|refine adh ?_ sD _|refine acH ?_ sD _|refine adg ?_ (adD asT sD))
  have ap:(w:Nat)+1+1+1<((((w1.setCell ⟨w+1+1+1,0,none⟩ (.int .u64 (wd 0 b))).setCell ⟨w+1+1+1,1,none⟩ (.int .u64 (wd 1 b))).setCell ⟨w+1+1+1,2,none⟩ (.int .u64 (wd 2 b))).setCell ⟨w+1+1+1,3,none⟩ (.int .u64 (wd 3 b))):=by simpa using hz1
  generalize((((w1.setCell ⟨w+1+1+1,0,none⟩ (.int .u64 (wd 0 b))).setCell ⟨w+1+1+1,1,none⟩ (.int .u64 (wd 1 b))).setCell ⟨w+1+1+1,2,none⟩ (.int .u64 (wd 2 b))).setCell ⟨w+1+1+1,3,none⟩ (.int .u64 (wd 3 b)))=W1 at L ao M hB2 ap⊢;clear gA1 gX1 gR1 hB1 E hz1 gX gR;go_cut[14] (λ_ wx=>Hid (C4 wx (w+1+1) x)/\Hid (K4 wx (w+1+1+1) (.int .u64 (wd 0 Rv)) (.int .u64 (wd 1 b)) (.int .u64 (wd 2 b)) (.int .u64 (wd 3 b)))/\Np (w+1+1) wr wx/\(w:Nat)+1+1+1<wx)
  case first=>
   clear C1 C2 C3 ag C s0 s1 s2 s3 t0 t1 t2 t3 q1 q2 q3 hI d;(have hjw:IntKind.i64.wrap ((j:Int)+1)=(j:Int)+1:=by rw[ZZ];omega);obtain⟨⟨G,H,I,J⟩,l,m,o,q⟩:=id L.out;obtain⟨⟨a0,a1,a2,a3⟩,_⟩:=id M.out
   go_region_with(first
    |(go_at_call 165;have _t:=K;clear K _t;refine gB (EW a _ oM oM _) λw2 t=>?_;have N:(w:Nat)+1+1+1<w2:=(ZB (by first|exact ap|(simp;exact ap)) t.size);have gA3:Hid (C4 w2 w a):=(by first|exact aey M.out t (by first|omega|(simp;omega))|exact aey (aeB M.out) t (by first|omega|(simp;omega)));have gX3:Hid (C4 w2 (w+1+1) x):=(by first|exact aey ao.out t (by first|omega|(simp;omega))|exact aey (aeB ao.out) t (by first|omega|(simp;omega)));have gR3:Hid (C4 w2 (w+1+1+1) b):=(by first|exact aey L.out t (by first|omega|(simp;omega))|exact aey (aeB L.out) t (by first|omega|(simp;omega)));obtain⟨⟨r0',r1',r2',r3'⟩,fr0',fr1',fr2',fr3'⟩:=id gR3.out;obtain⟨⟨a0',a1',a2',a3'⟩,_⟩:=id gA3.out)
    |(go_at_call 165;refine gB (EW a _ oM oM _) λw3 O=>?_;have hz4:(w:Nat)+1+1+1<w3:=(ZB (by first|exact N|(simp;exact N)) O.size);have gX4:Hid (C4 w3 (w+1+1) x):=(by first|exact aey gX3.out O (by first|omega|(simp;omega))|exact aey (aeB gX3.out) O (by first|omega|(simp;omega)));have gR4:Hid (C4 w3 (w+1+1+1) b):=(by first|exact aey gR3.out O (by first|omega|(simp;omega))|exact aey (aeB gR3.out) O (by first|omega|(simp;omega)));obtain⟨⟨r0'',r1'',r2'',r3''⟩,fr0'',fr1'',fr2'',fr3''⟩:=id gR4.out))
   (all_goals go_wp2_with fail);all_goals
    go_meet;refine⟨gX4.out.far (by simp<;>omega) _,by first|exact gR4.out.set0 _|(rw[am.out];exact gR4.out.set0 _),?_,by simpa using hz4⟩;repeat(first|exact Zx _ _|assumption|refine adE ?_|refine adh ?_ sD _|refine acH ?_ sD _|refine adg ?_ (adD asT sD))
  obtain⟨gx,gr,hB3,N⟩:=hcut;clear am K C1 L ao M hB2 ap;have gr:Hid (C4 wc (w+1+1+1) Rv):=by have:=gr.out;rwa [<-q1,<-q2,<-q3]at this
  clear q1 q2 q3;obtain⟨⟨x0,x1,x2,x3⟩,u,y,z,A⟩:=id gx.out
  go_wp2_with fail
  refine gB (C2.out _) λP Q=>?_;clear x0 x1 x2 x3 u y z A C2;have hz4:(w:Nat)+1+1+1<P:=ZB N Q.size;have R:=gx.out.below Q oM;have gr4:=Zp (gr.out.below Q oM);have hB4:Np (w+1+1) wr P:=hB3.trans (Q.mono oM);clear gx gr hB3 Q N;obtain⟨⟨x0,x1,x2,x3⟩,u,y,z,A⟩:=id R;have R:=Zp R;have hz4x:(w:Nat)+1+1<P:=oM
  go_wp2_with fail
  refine gB (C3.out _) λw5 S=>?_;clear x0 x1 x2 x3 u y z A C3;have U:((P.alloc (.cells #[.int .u64 (wd 0 T),.int .u64 (wd 1 T),.int .u64 (wd 2 T),.int .u64 (wd 3 T)] 180)):Nat)=P+1:=sM;have ar:=(aeD P 180 (.int .u64 (wd 0 T)) (.int .u64 (wd 1 T)) (.int .u64 (wd 2 T)) (.int .u64 (wd 3 T))).below S (by rw[U];omega);have V:=(R.out.alloc hz4x _).below S (by rw[U];omega);have av:=(gr4.out.alloc hz4 _).below S (by rw[U];omega);have hz5:(P:Nat)<w5:=by have:=S.size;rw[U]at this;omega
  have hB5:Np (w+1+1) wr w5:=by
   repeat(first|exact Zx _ _|assumption|refine adE ?_|refine adh ?_ sD _|refine acH ?_ sD _|refine adg ?_ (adD asT sD))
  clear R gr4 hB4 S U;obtain⟨⟨x0,x1,x2,x3⟩,u,y,z,A⟩:=id V;have ar:=Zp ar;have av:=Zp av;have V:=Zp V;go_upto_region 10 with(fail);clear x0 x1 x2 x3 u y z A;have X:=Zp (V.out.put (.int .u64 (wd 0 c)) (.int .u64 (wd 1 c)) (.int .u64 (wd 2 c)) (.int .u64 (wd 3 c)));have F:Hid (C4 ((((w5.setCell ⟨w+1+1,0,none⟩ (.int .u64 (wd 0 c))).setCell ⟨w+1+1,1,none⟩ (.int .u64 (wd 1 c))).setCell ⟨w+1+1,2,none⟩ (.int .u64 (wd 2 c))).setCell ⟨w+1+1,3,none⟩ (.int .u64 (wd 3 c))) (w+1+1+1) Rv):=(((av.out.far (by simp<;>omega) _).far (by simp<;>omega) _).far (by simp<;>omega) _).far (by simp<;>omega) _;have Y:Hid (C4 ((((w5.setCell ⟨w+1+1,0,none⟩ (.int .u64 (wd 0 c))).setCell ⟨w+1+1,1,none⟩ (.int .u64 (wd 1 c))).setCell ⟨w+1+1,2,none⟩ (.int .u64 (wd 2 c))).setCell ⟨w+1+1,3,none⟩ (.int .u64 (wd 3 c))) P T):=(((ar.out.far (by simp<;>omega) _).far (by simp<;>omega) _).far (by simp<;>omega) _).far (by simp<;>omega) _;have Z:Np (w+1+1) wr ((((w5.setCell ⟨w+1+1,0,none⟩ (.int .u64 (wd 0 c))).setCell ⟨w+1+1,1,none⟩ (.int .u64 (wd 1 c))).setCell ⟨w+1+1,2,none⟩ (.int .u64 (wd 2 c))).setCell ⟨w+1+1,3,none⟩ (.int .u64 (wd 3 c))):=by
   repeat(first|exact Zx _ _|assumption|refine adE ?_|refine adh ?_ sD _|refine acH ?_ sD _|refine adg ?_ (adD asT sD))
  have hz6:(P:Nat)<((((w5.setCell ⟨w+1+1,0,none⟩ (.int .u64 (wd 0 c))).setCell ⟨w+1+1,1,none⟩ (.int .u64 (wd 1 c))).setCell ⟨w+1+1,2,none⟩ (.int .u64 (wd 2 c))).setCell ⟨w+1+1,3,none⟩ (.int .u64 (wd 3 c))):=by simpa using hz5
  generalize((((w5.setCell ⟨w+1+1,0,none⟩ (.int .u64 (wd 0 c))).setCell ⟨w+1+1,1,none⟩ (.int .u64 (wd 1 c))).setCell ⟨w+1+1,2,none⟩ (.int .u64 (wd 2 c))).setCell ⟨w+1+1,3,none⟩ (.int .u64 (wd 3 c)))=W6 at F X Y Z hz6⊢;clear V av ar hB5 hz5;obtain⟨⟨t0,t1,t2,t3⟩,_⟩:=id Y.out;obtain⟨⟨G,H,I,J⟩,_⟩:=id F.out;by_cases hc:Rv<T
  .go_wp2_with fail
   refine gB (mw _ _ uR uT _) λw7 e=>?_;clear t0 t1 t2 t3 G H I J;have s:=X.out.below e oM;have g:=F.out.below e oM;have f:Np (w+1+1) wr w7:=Z.trans (e.mono oM);clear X F Y Z e;have s:=Zp s;have g:=Zp g
   go_wp2
   go_roundw
   case rel=>exact⟨(j:Int)-2,c,Rv,rfl,oM,oM,oM,ag.out hc,aey gA.out f oM,s,g,⟨(f.cell (p:=⟨w+1,0,none⟩) (by show (w:Nat)+1<w+1+1;omega)).trans d.out.1,(f.cell (p:=⟨w+1,1,none⟩) (by show (w:Nat)+1<w+1+1;omega)).trans d.out.2.1,(f.frozen (p:=⟨w+1,0,none⟩) (by show (w:Nat)+1<w+1+1;omega)).trans d.out.2.2.1,(f.frozen (p:=⟨w+1,1,none⟩) (by show (w:Nat)+1<w+1+1;omega)).trans d.out.2.2.2⟩,hB.trans (f.mono oM),ZB hz (f).size⟩
   simp only[intOf];omega
  go_wp2_with fail
  refine gB (mw _ _ uR uT _) λw7 e=>?_;clear t0 t1 t2 t3 G H I J;have hz7:(P:Nat)<w7:=ZB hz6 e.size;have s:=X.out.below e oM;have g:=F.out.below e oM;have gt7:=Y.out.below e oM;have f:Np (w+1+1) wr w7:=Z.trans (e.mono oM);clear X F Y Z e hz6;obtain⟨⟨t0,t1,t2,t3⟩,_⟩:=id gt7;obtain⟨⟨G,H,I,J⟩,l,m,o,q⟩:=id g;have s:=Zp s;have g:=Zp g;clear gt7
  go_wp2_with fail
  refine gB (nq _ _ uR uT _) λw8 aa=>?_;clear t0 t1 t2 t3 G H I J l m o q;have aw:=s.out.below aa oM;have aM:=g.out.below aa oM;have hB8:Np (w+1+1) wr w8:=f.trans (aa.mono oM);have hz8:(P:Nat)<w8:=ZB hz7 aa.size;clear s g f aa hz7;have hsub:jW Rv T=Rv-T:=oE uR oM;rw[hsub];generalize hRT:Rv-T=D at*;clear hsub;obtain⟨⟨x0,x1,x2,x3⟩,u,y,z,A⟩:=id aw;obtain⟨⟨G,H,I,J⟩,l,m,o,q⟩:=id aM;have aw:=Zp aw;have aM:=Zp aM;have s0:=s0.out
  go_wp2
  clear x0 x1 x2 x3 u y z A G H I J l m o q;have gx9:C4 (((((w8.setCell ⟨w+1+1+1,0,none⟩ (.int .u64 (wd 0 D))).setCell ⟨w+1+1+1,1,none⟩ (.int .u64 (wd 1 D))).setCell ⟨w+1+1+1,2,none⟩ (.int .u64 (wd 2 D))).setCell ⟨w+1+1+1,3,none⟩ (.int .u64 (wd 3 D))).setCell ⟨w+1+1,0,none⟩ (.int .u64 (wd 0 X3))) (w+1+1) X3:=by
   have:=K4.set0 ((((aw.out.far (by simp<;>omega) _).far (by simp<;>omega) _).far (by simp<;>omega) _).far (by simp<;>omega) _:C4 ((((w8.setCell ⟨w+1+1+1,0,none⟩ (.int .u64 (wd 0 D))).setCell ⟨w+1+1+1,1,none⟩ (.int .u64 (wd 1 D))).setCell ⟨w+1+1+1,2,none⟩ (.int .u64 (wd 2 D))).setCell ⟨w+1+1+1,3,none⟩ (.int .u64 (wd 3 D))) (w+1+1) c) (.int .u64 (wd 0 X3))
   rwa [<-s1.out,<-s2.out,<-s3.out]at this
  have gr9:C4 (((((w8.setCell ⟨w+1+1+1,0,none⟩ (.int .u64 (wd 0 D))).setCell ⟨w+1+1+1,1,none⟩ (.int .u64 (wd 1 D))).setCell ⟨w+1+1+1,2,none⟩ (.int .u64 (wd 2 D))).setCell ⟨w+1+1+1,3,none⟩ (.int .u64 (wd 3 D))).setCell ⟨w+1+1,0,none⟩ (.int .u64 (wd 0 X3))) (w+1+1+1) D:=(aM.out.put (.int .u64 (wd 0 D)) (.int .u64 (wd 1 D)) (.int .u64 (wd 2 D)) (.int .u64 (wd 3 D))).far (by simp<;>omega) _;have B:Np (w+1+1) wr (((((w8.setCell ⟨w+1+1+1,0,none⟩ (.int .u64 (wd 0 D))).setCell ⟨w+1+1+1,1,none⟩ (.int .u64 (wd 1 D))).setCell ⟨w+1+1+1,2,none⟩ (.int .u64 (wd 2 D))).setCell ⟨w+1+1+1,3,none⟩ (.int .u64 (wd 3 D))).setCell ⟨w+1+1,0,none⟩ (.int .u64 (wd 0 X3))):=by
   repeat(first|exact Zx _ _|assumption|refine adE ?_|refine adh ?_ sD _|refine acH ?_ sD _|refine adg ?_ (adD asT sD))
  have gx9:=Zp gx9;have gr9:=Zp gr9;have C:=C.out hc
  go_roundw
  case rel=>exact⟨(j:Int)-2,X3,D,rfl,oM,oM,oM,C,aey gA.out B oM,gx9,gr9,⟨(B.cell (p:=⟨w+1,0,none⟩) (by show (w:Nat)+1<w+1+1;omega)).trans d.out.1,(B.cell (p:=⟨w+1,1,none⟩) (by show (w:Nat)+1<w+1+1;omega)).trans d.out.2.1,(B.frozen (p:=⟨w+1,0,none⟩) (by show (w:Nat)+1<w+1+1;omega)).trans d.out.2.2.1,(B.frozen (p:=⟨w+1,1,none⟩) (by show (w:Nat)+1<w+1+1;omega)).trans d.out.2.2.2⟩,hB.trans (B.mono oM),ZB hz (B).size⟩
  simp only[intOf];omega
 obtain rfl:k=-2:=oM;obtain⟨aR,he2⟩:=Ik hI.out;have aR:=Zp aR;obtain⟨hr0,hr1,hr2,hr3⟩:=d.out;obtain⟨⟨x0,x1,x2,x3⟩,_⟩:=id ab.out;obtain⟨⟨G,H,I,J⟩,_⟩:=id ac.out;have ur:au r:=by have:=ha.out;have:=aR.out;unfold au;omega
 clear hI d hCa ab ac
 go_wp2
 go_region
 go_wp2
 refine aaT (v:=.tuple #[.agg #[.int .u64 (wd 0 x),.int .u64 (wd 1 x)],.bool (!decide (r=0))]) (by simp[results,results157,go_sem, *]) rfl ⟨x,r,?_,aR.out,he2,?_⟩
 .rw[show(!decide (r=0))=decide (r≠0)from by by_cases h:r=0<;>simp[h]]
 exact cB
end
section
variable{X a k r:Nat}{h:Int}
def dO(n:Nat):Nat:=Classical.choose (jv n)
def dZ(n:Nat):bA n (dO n):=Classical.choose_spec (jv n)
def vw(m a:Nat):Nat×Nat:=az m false (dO (val (exN a) (exE a))) (decide (dO (val (exN a) (exE a))*dO (val (exN a) (exE a))≠val (exN a) (exE a))) (-2500)
def Fh{m:Nat}(b:exN a≠0)(d:2*h=bz a-k)(e:100<=k)(f:k<=254)(g:bA (ay a*2^k) r):az m false r (decide (r*r≠ay a*2^k)) h=vw m a:=by
 obtain⟨j,_,n,o,i⟩:=dw a;have p:=aL a;have q:=i b;have l:=ox a;have c:=dZ (val (exN a) (exE a));unfold vw;rw[<-l]at c⊢;exact ic d oM (by rw[bO (by rw[Ne,dR];exact b)];omega) g c
def HW{m:Nat}(b:exN a≠0)(d:2*h=exE a-k)(e:108<=k)(f:k<=254)(c:bA (exN a*2^k) X):az m false (mk2 X (true&&decide (X*X=exN a*2^k))) false (h-1)=vw m a:=by
 have i:=aL a;have j:=bO (k:=k) b;have g:=ey.2 b;rw[jy (k:=k) c oM,Bool.not_true,aaW];exact ic d oM oM c (dZ _)
@[irreducible]noncomputable def dV(m a:Nat):Nat×Nat:=
 if af a=0 then(a,0)else if aE a then(9221120237041090560,16)else if af a=3 then(a,0)else vw m a
def pU(m a:Nat):Nat×Nat:=az m false (dO (2^(5000-exE a).toNat/exN a)) (decide (dO (2^(5000-exE a).toNat/exN a)*dO (2^(5000-exE a).toNat/exN a)≠2^(5000-exE a).toNat/exN a)||decide (2^(5000-exE a).toNat%exN a≠0)) (-2500)
def vE{m b:Nat}{f:Int}(w:exN a≠0)(j:2*f=-b-exE a)(l:240+bl (exN a)<=b)(n:b<=300)(g:bA (2^b/exN a) X):
 az m false (mk2 X (decide (2^b%exN a=0)&&decide (X*X=2^b/exN a))) false (f-1)=pU m a:=by
 have x:=aL a;have c:0<exN a:=oM;unfold pU;obtain⟨P,o⟩:∃P:Nat,(5000-exE a).toNat=P:=⟨_,rfl⟩;rw[o];have q:=dZ (2^P/exN a);obtain⟨i,s⟩:∃i:Nat,P=b+2*i:=⟨(P-b)/2,oM⟩;have f1:=dh.frac (X:=1) (Y:=exN a) c b (2*i);rw[aa5,aa5,<-s]at f1;have t:=pA (X:=1) (Y:=exN a) (p:=b) dC c;have u:bl 1=1:=ri (k:=0) dC dC;rw[aa5,u]at t;have v:=jY (m:=m) (ng:=false) (e:=-2500) f1 q g oM;rw[jy (k:=b) g oM];have d:(!decide (2^b%exN a=0))=decide (2^b%exN a≠0):=by rw[aez]
 rw[d,show f=-2500+(i:Int)from by omega,v]
def B4{m:Nat}(c:exN a≠0)(g:2*h=-252-bz a-k)(d:k<=254)(i:bA (2^252/ay a*2^k) r):
 az m false r (decide (r*r≠2^252/ay a*2^k)||decide (2^252%ay a≠0)) h=pU m a:=by
 have l:=aL a;have n:=dU a;have j:=ey.2 c;obtain⟨b,e,e1,e2⟩:∃(b:Nat)(e:Int),2*e=-b-exE a/\(b=240+bl (exN a)\/b=241+bl (exN a)):=by
  rcases(show(240+(bl (exN a):Int)+exE a)%2=0\/(240+(bl (exN a):Int)+exE a)%2=1 by omega)with h|h
  .exact⟨240+bl (exN a),-(240+(bl (exN a):Int)+exE a)/2,oM,.inl rfl⟩
  exact⟨241+bl (exN a),-(241+(bl (exN a):Int)+exE a)/2,oM,.inr rfl⟩
 have f:=dZ (2^b/exN a);rw[B5 c g d i e1 oM oM f];exact vE c e1 oM oM f
@[irreducible]noncomputable def cN(m a:Nat):Nat×Nat:=
 if af a=0 then(aF (aE a)+9218868437227405312,8)else if aE a then(9221120237041090560,16)else if af a=3 then(0,0)else pU m a
def AZ(n:Nat):∃r,kr n r:=by
 induction n with
 |zero=>exact⟨0,Zo _,dC⟩
 |succ n b=>
  obtain⟨r,d,e⟩:=b;by_cases h:(r+1)*((r+1)*(r+1))<=n+1
  .refine⟨r+1,h,?_⟩;have c:=aaZ (show r+1<r+1+1 by omega) (show r+1<r+1+1 by omega);have f:=aaZ (show r+1<r+1+1 by omega) c;omega
  exact⟨r,oM,oM⟩
def EE{n s:Nat}(b:kr n r)(c:kr n s):r=s:=ab7 (KM (aam b.1 c.2)) (KM (aam c.1 b.2))
def cbN(n:Nat):Nat:=Classical.choose (AZ n)
def ug(n:Nat):kr n (cbN n):=Classical.choose_spec (AZ n)
def cbK(a:Nat):Nat:=190+((exE a-190)%3).toNat
def EG(a:Nat):(exE a-cbK a)%3=0/\190<=cbK a/\cbK a<=192:=by unfold cbK;omega
def AY(m a:Nat):Nat×Nat:=az m (aE a) (mk2 (cbN (exN a*2^cbK a)) (decide (cbN (exN a*2^cbK a)*(cbN (exN a*2^cbK a)*cbN (exN a*2^cbK a))=exN a*2^cbK a))) false ((exE a-cbK a)/3-1)
def KH{m:Nat}(b:kr (exN a*2^cbK a) X):az m (aE a) (mk2 X (decide (X*(X*X)=exN a*2^cbK a))) false ((exE a-cbK a)/3-1)=AY m a:=by
 obtain rfl:=EE b (ug _);rfl
def G7{m:Nat}(c:exN a≠0)(d:3*h=bz a-k)(b:128<=k)(e:kr (ay a*2^k) r):az m (aE a) r (decide (r*(r*r)≠ay a*2^k)) h=AY m a:=by
 obtain⟨g,f,i⟩:=EG a;exact G8 c d b e oM f (ug _)
@[irreducible]noncomputable def fJ(m a:Nat):Nat×Nat:=if af a=3\/af a=0 then(a,0)else AY m a
end
section
open Go.RowKit
variable{X n:Nat}{w:Bool}{x:Int}
def oz{n:Int}(h:x%n≠0):(x.tmod n !=0):=by
 rw[ac9];intro a;exact h (Int.emod_eq_zero_of_dvd (Int.dvd_of_tmod_eq_zero a))
def lF{n:Int}(h:x%n=0):(x.tmod n !=0)=false:=by
 rw[Int.tmod_eq_zero_of_dvd (Int.dvd_of_emod_eq_zero h)];rfl
def gZ{n:Int}(h:x%n=0):x.tdiv n=x/n:=Int.tdiv_eq_ediv_of_dvd (Int.dvd_of_emod_eq_zero h)
def bJ(a:-1000000<=x)(b:x<=1000000):Nq x=x:=by unfold Nq;omega
def ow(a:-1000000<=x)(b:x<=1000000):IntKind.i64.wrap x=x:=by rw[ZZ];omega
def eZ(a:Nat):((a:Int)/9223372036854775808==1)=aE a:=by
 unfold aE;by_cases h:a/9223372036854775808=1
 .rw[ZP h,abH];omega
 rw[Zv h,Zs];omega
def kG{a:Nat}(c:U64 a)(h:af a=0):a=aF (aE a):=by
 unfold U64 at c;unfold af at h;have d:a%9223372036854775808=0:=by(repeat' split at h)<;>omega
 unfold aF aE;by_cases b:a/9223372036854775808=1
 .rw[ZP b];show a=9223372036854775808;omega
 rw[Zv b];show a=0;omega
def xL(h:X≠0):mk2 X w≠0:=by unfold mk2;omega
def xM(h:X<=n):bl (mk2 X w)<=bl n+1:=by
 have a:n<2^bl n:=br.1 (Zo _);refine br.2 ?_;rw[aaO];unfold mk2;cases w<;>simp<;>omega
def oP(h:bA n X)(b:n≠0):X≠0:=by
 intro a;subst a;have:=h.2;omega
def xv(h:bA n X):X<=n:=Zz (ach X) h.1
def KL(h:kr n X)(b:n≠0):X≠0:=by
 intro a;subst a;have:=h.2;omega
def UJ(h:kr n X):X<=n:=by
 refine Zz ?_ h.1;by_cases a:X=0
 .omega
 exact Zz (ach X) (aa0 (Zo X) (ach X))
end
section
open Go.RowKit
variable{n r s x:Nat}
def NQ(x:Int):Na .and .i64 x 1=x%2:=by
 have a:Na .and .i64 x 1=IntKind.i64.wrap ((BitVec.ofInt 64 x&&&BitVec.ofInt 64 1).toNat:Int):=rfl;have b:(BitVec.ofInt 64 x&&&BitVec.ofInt 64 1).toNat=(BitVec.ofInt 64 x).toNat%2:=by
  rw[adz,show(BitVec.ofInt 64 1).toNat=1 from by decide,Nat.and_one_is_mod]
 rw[a,b,ZZ,ad7];omega
def FL(a:bA n r)(b:bA n s):r=s:=ab7 (H0 (aam a.1 b.2)) (H0 (aam b.1 a.2))
def LQ(a:x*x+r=n)(b:r<=2*x):bA n x/\decide (r≠0)=decide (x*x≠n):=by
 have e:(x+1)*(x+1)=x*x+2*x+1:=by rw[abm,abl];omega
 refine⟨⟨oM,by rw[e];omega⟩,?_⟩;by_cases h:r=0
 .rw[Zv oM,Zv oM]
 rw[ZP h,ZP oM]
def Il(h:bA n r)(b:bl n<=256):r<2^128:=by
 have c:=h.1;have d:n<2^256:=br.1 b;refine Nat.lt_of_not_le λa=>?_;have:=aa0 a a;rw[<-ZD]at this;omega
def Ra(h:x<2^128):wd 2 x=0/\wd 3 x=0:=by
 unfold wd;constructor
 .rw[aaG (show x<2^(64*2)from h)]
 rw[aaG (Nat.lt_trans h (show 2^128<2^(64*3)from by decide))]
def Ij(a:au n)(W:AK):Bf prog 157 #[W4 n] W λe w'=>e=.returned (.tuple #[.agg #[iU (wd 0 (dO n)),iU (wd 1 (dO n))],.bool (decide (dO n*dO n≠n))])/\Np W W w':=by
 refine(Lc n a W).mono ?_;rintro e w'⟨x,r,rfl,b,c,d⟩;obtain⟨f,g⟩:=LQ b c;rw[g,FL f (dZ n)];exact⟨rfl,d⟩
def nZ{n l:Bool}{e:Int}(c:s≠0)(d:bl s<=253)(i:-100000<=e)(j:e<=100000):∃(k:Nat)(h:Int),2*h=e-k/\253<=k+bl s/\k+bl s<=254/\au (dO (s*2^k))/\dO (s*2^k)≠0/\
 ∀W,Bf prog 146 #[NV n e s l] W λe w'=>e=.returned (NV false h (dO (s*2^k)) (decide (dO (s*2^k)*dO (s*2^k)≠s*2^k)||l))/\Np W W w':=by
 have m:=ey.2 c;obtain⟨k,h,o,p,q⟩:∃(k:Nat)(h:Int),2*h=e-k/\(k:Int)=254-bl s-(e-(254-bl s))%2/\k+bl s<=254:=by
  refine⟨(254-bl s-(e-(254-bl s))%2).toNat,(e-(254-bl s-(e-(254-bl s))%2))/2,?_,?_,?_⟩<;>omega
 have t:bl (s*2^k)=bl s+k:=bO c;have f:au (s*2^k):=by
  have:=br (n:=s*2^k) (k:=256);exact this.1 oM
 have b:au s:=by
  have:=br (n:=s) (k:=256);exact this.1 oM
 have g:=dZ (s*2^k);have a:=Il g oM;obtain⟨u,v⟩:=Ra a;refine⟨k,h,o,oM,q,Nat.lt_trans a dC,oP g (by have:=abr (aaK c) (Zy k);omega),λW=>?_⟩;have H:=zl n l (decide (dO (s*2^k)*dO (s*2^k)≠s*2^k)) e (254-bl s) ((e-(254-bl s))%2) k h s (s*2^k) (dO (s*2^k)) (λW=>lh s b W) (ow oM oM) (ow oM oM) (NQ _) (by rw[p];exact ow oM oM) (bJ oM oM) (by rw[gZ oM];omega) (bJ oM oM)
  (λW=>by
   have:=da s b (k:Int) oM oM W;rw[aaB,js f]at this;exact this)
  (λW=>Ij f W) W
 refine H.mono ?_;rintro w w'⟨rfl,d⟩;refine⟨?_,d⟩;show _=Ending.returned (.agg #[.bool false,iI h,iU (wd 0 _),iU (wd 1 _),iU (wd 2 _),iU (wd 3 _),.bool _]);rw[u,v];rfl
end
section
open Go.RowKit
def O4(op m a b c:Nat)(d:PC 42 #[.int .u64 a] (.int .i64 0))(w:AK):
 Bf prog 135 #[REC op m a b c] w (ai a 0 false w):=by
 go_enter func135,ntmps135
 go_wp2_with(go_at_call_of 42 (Value.int IntKind.u64 a);refine gW (d.out _) ?_)
 all_goals exact bR ⟨rfl,cB⟩
def HX(op m a b c e:Nat)(g:PC 42 #[.int .u64 a] (.int .i64 (e:Int)))(f:((e:Int)==0)=false)(j:(((a:Int)/9223372036854775808==1)))(w:AK):
 Bf prog 135 #[REC op m a b c] w (ai 9221120237041090560 16 false w):=by
 go_enter func135,ntmps135
 go_wp2_with(first|(go_at_call_of 42 (Value.int IntKind.u64 a);refine gW (g.out _) ?_)|(go_at_call 61;refine gB (cP _) λk d=>?_;obtain⟨h,i⟩:=de d))
 all_goals exact bR ⟨rfl,cB⟩
def HY(op m a b c:Nat)(d:PC 42 #[.int .u64 a] (.int .i64 3))(e:(((a:Int)/9223372036854775808==1)=false))(w:AK):
 Bf prog 135 #[REC op m a b c] w (ai a 0 false w):=by
 go_enter func135,ntmps135
 go_wp2_with(go_at_call_of 42 (Value.int IntKind.u64 a);refine gW (d.out _) ?_)
 all_goals exact bR ⟨rfl,cB⟩
def LI(op m a b c:Nat)(e:PC 42 #[.int .u64 a] (.int .i64 0))(d:Nat)(f:Na .or .u64 (a:Int) 9218868437227405312=d)(w:AK):
 Bf prog 136 #[REC op m a b c] w (ai d 8 false w):=by
 go_enter func136,ntmps136
 go_wp2_with(go_at_call_of 42 (Value.int IntKind.u64 a);refine gW (e.out _) ?_)
 all_goals exact bR ⟨rfl,cB⟩
def Fo(op m a b c e:Nat)(g:PC 42 #[.int .u64 a] (.int .i64 (e:Int)))(f:((e:Int)==0)=false)(j:(((a:Int)/9223372036854775808==1)))(w:AK):
 Bf prog 136 #[REC op m a b c] w (ai 9221120237041090560 16 false w):=by
 go_enter func136,ntmps136
 go_wp2_with(first|(go_at_call_of 42 (Value.int IntKind.u64 a);refine gW (g.out _) ?_)|(go_at_call 61;refine gB (cP _) λk d=>?_;obtain⟨h,i⟩:=de d))
 all_goals exact bR ⟨rfl,cB⟩
def Fp(op m a b c:Nat)(d:PC 42 #[.int .u64 a] (.int .i64 3))(e:(((a:Int)/9223372036854775808==1)=false))(w:AK):
 Bf prog 136 #[REC op m a b c] w (ai 0 0 false w):=by
 go_enter func136,ntmps136
 go_wp2_with(go_at_call_of 42 (Value.int IntKind.u64 a);refine gW (d.out _) ?_)
 all_goals exact bR ⟨rfl,cB⟩
def KI(op m a b c:Nat)(d:PC 42 #[.int .u64 a] (.int .i64 3))(w:AK):
 Bf prog 137 #[REC op m a b c] w (ai a 0 false w):=by
 go_enter func137,ntmps137
 go_wp2_with(go_at_call_of 42 (Value.int IntKind.u64 a);refine gW (d.out _) ?_)
 all_goals exact bR ⟨rfl,cB⟩
def Qp(op m a b c:Nat)(d:PC 42 #[.int .u64 a] (.int .i64 0))(w:AK):
 Bf prog 137 #[REC op m a b c] w (ai a 0 false w):=by
 go_enter func137,ntmps137
 go_wp2_with(go_at_call_of 42 (Value.int IntKind.u64 a);refine gW (d.out _) ?_)
 all_goals exact bR ⟨rfl,cB⟩
def Lz(op m a b c d:Nat)(s:PC 42 #[.int .u64 a] (.int .i64 (d:Int)))(i l:Bool)(j h:Int)(k r n o:Nat)(t:BC 141 #[.int .u64 a] (NV i j k false))(u:BC 146 #[NV i j k false] (NV false h r l))(R:Hid (∀W,Bf prog 143 #[NV false h r l,.int .u8 m] W (ai n o false W)))(z:(((a:Int)/9223372036854775808==1)=false))(p:((d:Int)==0)=false)(q:((d:Int)==3)=false)(w:AK):
 Bf prog 135 #[REC op m a b c] w (ai n o false w):=by
 go_enter func135,ntmps135;have J2:RB w m a b c (aC (aC w #[.int .u8 op,.int .u8 m,.int .u64 a,.int .u64 b,.int .u64 c] 59) #[.int .u64 0,.int .u8 0,.bool false] 56):=(aeG op);have eo:RB w m a b c ((aC (aC w #[.int .u8 op,.int .u8 m,.int .u64 a,.int .u64 b,.int .u64 c] 59) #[.int .u64 0,.int .u8 0,.bool false] 56)).drew:=(aeG op).drew;go_upto_region 5 with(go_at_call_of 42 (Value.int IntKind.u64 a);refine gW (s.out _) ?_)
 go_region_held3(λw'=>(w' (aD w 1)=some (.int .u8 m)/\w' (aD w 2)=some (.int .u64 a)/\w' (aD w 3)=some (.int .u64 b)/\w' (aD w 4)=some (.int .u64 c)))
  (first
   |with_reducible exact tI
   |with_reducible exact j8
   |with_reducible exact j9
   |with_reducible exact eo.1
   |(refine⟨?_,?_,?_,?_⟩<;>(go_simp;done))
   |go_keep)
  (first
   |(go_at_call_of 141 (Value.int IntKind.u64 a);refine gB (t.out _) λv e=>?_;have dP:RB w m a b c v:=aeE rb1 e;have kh:=dP;obtain⟨j9,⟨qk,qi,qg⟩,⟨qu,qo,qm⟩,_⟩:=kh)
   |(go_at_call 146;refine gB (u.out _) λx f=>?_;have fT:RB w m a b c x:=aeE rb1 f;have kg:=fT;obtain⟨j8,⟨qj,qh,qf⟩,⟨qp,qn,ql⟩,_⟩:=kg)
   |(go_at_call 143;refine gB (R.out _) λy g=>?_;have lx:RB w m a b c y:=aeE rb1 g;have tJ:=lx;obtain⟨tI,⟨CJ,CI,CH⟩,⟨CM,CL,CK⟩,_⟩:=tJ))
 go_wp2_with fail
 refine bR ⟨rfl,?_⟩;exact lx.laid _ _ _
end
section
open Go.RowKit
def Jo(op m a b c:Nat)(e:PC 42 #[.int .u64 a] (.int .i64 3))(f:PC 42 #[.int .u64 b] (.int .i64 0))(g:Nat)(k:Na .and .u64 (Na .xor .u64 (a:Int) (b:Int)) 9223372036854775808=g)(w:AK):
 Bf prog 132 #[REC op m a b c] w (ai 9221120237041090560 16 false w):=by
 go_enter func132,ntmps132;go_upto_region 2 with(fail);go_cut[4] (λs h=>s=pT (w+1+1) 0/\(aC (aC (aC w #[.int .u8 op,.int .u8 m,.int .u64 a,.int .u64 b,.int .u64 c] 59) #[.int .u64 0,.int .u8 0,.bool false] 56) #[.int .i64 3,.int .i64 0] 113).drew=h)
 case first=>
  go_region_held3(λw'=>(w' (aD w 2)=some (.int .u64 a)/\w' (aD w 3)=some (.int .u64 b)))
   (first
    |(refine⟨?_,?_⟩<;>(go_simp;done))
    |go_keep)
   (first
    |(go_at_call_of 42 (Value.int IntKind.u64 a);refine gW (e.out _) ?_)
    |(go_at_call_of 42 (Value.int IntKind.u64 b);refine gW (f.out _) ?_))
  all_goals(go_wp2_with fail;go_meet;exact⟨rfl,rfl⟩)
 obtain⟨rfl,rfl⟩:=hcut
 go_wp2_with(go_at_call 61;refine gB (cP _) λl d=>?_;obtain⟨i,j⟩:=de d)
 all_goals exact bR ⟨rfl,cB⟩
def Jn(op m a b c:Nat)(e:PC 42 #[.int .u64 a] (.int .i64 0))(f:PC 42 #[.int .u64 b] (.int .i64 3))(g:Nat)(k:Na .and .u64 (Na .xor .u64 (a:Int) (b:Int)) 9223372036854775808=g)(w:AK):
 Bf prog 132 #[REC op m a b c] w (ai 9221120237041090560 16 false w):=by
 go_enter func132,ntmps132;go_upto_region 2 with(fail);go_cut[4] (λs h=>s=pT (w+1+1) 0/\(aC (aC (aC w #[.int .u8 op,.int .u8 m,.int .u64 a,.int .u64 b,.int .u64 c] 59) #[.int .u64 0,.int .u8 0,.bool false] 56) #[.int .i64 0,.int .i64 3] 113).drew=h)
 case first=>
  go_region_held3(λw'=>(w' (aD w 2)=some (.int .u64 a)/\w' (aD w 3)=some (.int .u64 b)))
   (first
    |(refine⟨?_,?_⟩<;>(go_simp;done))
    |go_keep)
   (first
    |(go_at_call_of 42 (Value.int IntKind.u64 a);refine gW (e.out _) ?_)
    |(go_at_call_of 42 (Value.int IntKind.u64 b);refine gW (f.out _) ?_))
  all_goals(go_wp2_with fail;go_meet;exact⟨rfl,rfl⟩)
 obtain⟨rfl,rfl⟩:=hcut
 go_wp2_with(go_at_call 61;refine gB (cP _) λl d=>?_;obtain⟨i,j⟩:=de d)
 all_goals exact bR ⟨rfl,cB⟩
def Jm(op m a b c d:Nat)(h:PC 42 #[.int .u64 a] (.int .i64 3))(i:PC 42 #[.int .u64 b] (.int .i64 (d:Int)))(e:Nat)(k:Na .and .u64 (Na .xor .u64 (a:Int) (b:Int)) 9223372036854775808=e)(f:Nat)(l:Na .or .u64 (e:Int) 9218868437227405312=f)(g:((d:Int)==0)=false)(w:AK):
 Bf prog 132 #[REC op m a b c] w (ai f 0 false w):=by
 go_enter func132,ntmps132;go_upto_region 2 with(fail);go_cut[4] (λs j=>s=pT (w+1+1) 0/\(aC (aC (aC w #[.int .u8 op,.int .u8 m,.int .u64 a,.int .u64 b,.int .u64 c] 59) #[.int .u64 0,.int .u8 0,.bool false] 56) #[.int .i64 3,.int .i64 (d:Int)] 113).drew=j)
 case first=>
  go_region_held3(λw'=>(w' (aD w 2)=some (.int .u64 a)/\w' (aD w 3)=some (.int .u64 b)))
   (first
    |(refine⟨?_,?_⟩<;>(go_simp;done))
    |go_keep)
   (first
    |(go_at_call_of 42 (Value.int IntKind.u64 a);refine gW (h.out _) ?_)
    |(go_at_call_of 42 (Value.int IntKind.u64 b);refine gW (i.out _) ?_))
  all_goals(go_wp2_with fail;go_meet;exact⟨rfl,rfl⟩)
 obtain⟨rfl,rfl⟩:=hcut
 go_wp2_with fail
 all_goals exact bR ⟨rfl,cB⟩
def Jl(op m a b c d:Nat)(i:PC 42 #[.int .u64 a] (.int .i64 (d:Int)))(j:PC 42 #[.int .u64 b] (.int .i64 3))(e:Nat)(l:Na .and .u64 (Na .xor .u64 (a:Int) (b:Int)) 9223372036854775808=e)(f:Nat)(n:Na .or .u64 (e:Int) 9218868437227405312=f)(g:((d:Int)==0)=false)(h:((d:Int)==3)=false)(w:AK):
 Bf prog 132 #[REC op m a b c] w (ai f 0 false w):=by
 go_enter func132,ntmps132;go_upto_region 2 with(fail);go_cut[4] (λs k=>s=pT (w+1+1) 0/\(aC (aC (aC w #[.int .u8 op,.int .u8 m,.int .u64 a,.int .u64 b,.int .u64 c] 59) #[.int .u64 0,.int .u8 0,.bool false] 56) #[.int .i64 (d:Int),.int .i64 3] 113).drew=k)
 case first=>
  go_region_held3(λw'=>(w' (aD w 2)=some (.int .u64 a)/\w' (aD w 3)=some (.int .u64 b)))
   (first
    |(refine⟨?_,?_⟩<;>(go_simp;done))
    |go_keep)
   (first
    |(go_at_call_of 42 (Value.int IntKind.u64 a);refine gW (i.out _) ?_)
    |(go_at_call_of 42 (Value.int IntKind.u64 b);refine gW (j.out _) ?_))
  all_goals(go_wp2_with fail;go_meet;exact⟨rfl,rfl⟩)
 obtain⟨rfl,rfl⟩:=hcut
 go_wp2_with fail
 all_goals exact bR ⟨rfl,cB⟩
def Py(op m a b c d:Nat)(g:PC 42 #[.int .u64 a] (.int .i64 0))(h:PC 42 #[.int .u64 b] (.int .i64 (d:Int)))(e:Nat)(j:Na .and .u64 (Na .xor .u64 (a:Int) (b:Int)) 9223372036854775808=e)(f:((d:Int)==3)=false)(w:AK):
 Bf prog 132 #[REC op m a b c] w (ai e 0 false w):=by
 go_enter func132,ntmps132;go_upto_region 2 with(fail);go_cut[4] (λs i=>s=pT (w+1+1) 0/\(aC (aC (aC w #[.int .u8 op,.int .u8 m,.int .u64 a,.int .u64 b,.int .u64 c] 59) #[.int .u64 0,.int .u8 0,.bool false] 56) #[.int .i64 0,.int .i64 (d:Int)] 113).drew=i)
 case first=>
  go_region_held3(λw'=>(w' (aD w 2)=some (.int .u64 a)/\w' (aD w 3)=some (.int .u64 b)))
   (first
    |(refine⟨?_,?_⟩<;>(go_simp;done))
    |go_keep)
   (first
    |(go_at_call_of 42 (Value.int IntKind.u64 a);refine gW (g.out _) ?_)
    |(go_at_call_of 42 (Value.int IntKind.u64 b);refine gW (h.out _) ?_))
  all_goals(go_wp2_with fail;go_meet;exact⟨rfl,rfl⟩)
 obtain⟨rfl,rfl⟩:=hcut
 go_wp2_with fail
 all_goals exact bR ⟨rfl,cB⟩
def Px(op m a b c d:Nat)(h:PC 42 #[.int .u64 a] (.int .i64 (d:Int)))(i:PC 42 #[.int .u64 b] (.int .i64 0))(e:Nat)(k:Na .and .u64 (Na .xor .u64 (a:Int) (b:Int)) 9223372036854775808=e)(f:((d:Int)==3)=false)(g:((d:Int)==0)=false)(w:AK):
 Bf prog 132 #[REC op m a b c] w (ai e 0 false w):=by
 go_enter func132,ntmps132;go_upto_region 2 with(fail);go_cut[4] (λs j=>s=pT (w+1+1) 0/\(aC (aC (aC w #[.int .u8 op,.int .u8 m,.int .u64 a,.int .u64 b,.int .u64 c] 59) #[.int .u64 0,.int .u8 0,.bool false] 56) #[.int .i64 (d:Int),.int .i64 0] 113).drew=j)
 case first=>
  go_region_held3(λw'=>(w' (aD w 2)=some (.int .u64 a)/\w' (aD w 3)=some (.int .u64 b)))
   (first
    |(refine⟨?_,?_⟩<;>(go_simp;done))
    |go_keep)
   (first
    |(go_at_call_of 42 (Value.int IntKind.u64 a);refine gW (h.out _) ?_)
    |(go_at_call_of 42 (Value.int IntKind.u64 b);refine gW (i.out _) ?_))
  all_goals(go_wp2_with fail;go_meet;exact⟨rfl,rfl⟩)
 obtain⟨rfl,rfl⟩:=hcut
 go_wp2_with fail
 all_goals exact bR ⟨rfl,cB⟩
def Pz(op m a b c d e:Nat)(z:PC 42 #[.int .u64 a] (.int .i64 (d:Int)))(A:PC 42 #[.int .u64 b] (.int .i64 (e:Int)))(B:Nat)(J:Na .and .u64 (Na .xor .u64 (a:Int) (b:Int)) 9223372036854775808=B)(j k ng:Bool)(l n o:Int)(p q sq r t:Nat)(C:BC 141 #[.int .u64 a] (NV j l p false))(D:BC 141 #[.int .u64 b] (NV k n q false))(T:BC 142 #[NV j l p false,NV k n q false] (NV ng o sq false))(R:Hid (∀W,Bf prog 143 #[NV ng o sq false,.int .u8 m] W (ai r t false W)))(u:((d:Int)==0)=false)(v:((d:Int)==3)=false)(x:((e:Int)==0)=false)(y:((e:Int)==3)=false)(w:AK):
 Bf prog 132 #[REC op m a b c] w (ai r t false w):=by
 go_enter func132,ntmps132;go_upto_region 2 with(fail);go_cut[4] (λs E=>s=pT (w+1+1) 0/\(aC (aC (aC w #[.int .u8 op,.int .u8 m,.int .u64 a,.int .u64 b,.int .u64 c] 59) #[.int .u64 0,.int .u8 0,.bool false] 56) #[.int .i64 (d:Int),.int .i64 (e:Int)] 113).drew=E)
 case first=>
  go_region_held3(λw'=>(w' (aD w 2)=some (.int .u64 a)/\w' (aD w 3)=some (.int .u64 b)))
   (first
    |(refine⟨?_,?_⟩<;>(go_simp;done))
    |go_keep)
   (first
    |(go_at_call_of 42 (Value.int IntKind.u64 a);refine gW (z.out _) ?_)
    |(go_at_call_of 42 (Value.int IntKind.u64 b);refine gW (A.out _) ?_))
  all_goals(go_wp2_with fail;go_meet;exact⟨rfl,rfl⟩)
 obtain⟨rfl,rfl⟩:=hcut;have eo:RB w m a b c (aC (aC (aC w #[.int .u8 op,.int .u8 m,.int .u64 a,.int .u64 b,.int .u64 c] 59) #[.int .u64 0,.int .u8 0,.bool false] 56) #[.int .i64 d,.int .i64 e] 113).drew:=((aeG op).alloc _).drew
 go_wp2_with fail
 go_region_held3(λw'=>(w' (aD w 1)=some (.int .u8 m)/\w' (aD w 2)=some (.int .u64 a)/\w' (aD w 3)=some (.int .u64 b)/\w' (aD w 4)=some (.int .u64 c)))
  (first
   |exact JR
   |exact tI
   |exact j8
   |exact j9
   |exact eo.1
   |go_keep)
  (first
   |(go_at_call_of 141 (Value.int IntKind.u64 a);refine gB (C.out _) λF f=>?_;have dP:RB w m a b c F:=aeE (by first|exact eo|exact eo.drew|exact(eo.drew).drew) f;have kh:=dP;obtain⟨j9,⟨qk,qi,qg⟩,⟨qu,qo,qm⟩,_⟩:=kh)
   |(go_at_call_of 141 (Value.int IntKind.u64 b);refine gB (D.out _) λG g=>?_;have fT:RB w m a b c G:=aeE (by first|exact dP|exact dP.drew|exact(dP.drew).drew|exact eo|exact eo.drew|exact(eo.drew).drew) g;have kg:=fT;obtain⟨j8,⟨qj,qh,qf⟩,⟨qp,qn,ql⟩,_⟩:=kg)
   |(go_at_call 142;refine gB (T.out _) λH h=>?_;have lx:RB w m a b c H:=aeE (by first|exact fT|exact fT.drew|exact(fT.drew).drew|exact dP|exact dP.drew|exact(dP.drew).drew) h;have tJ:=lx;obtain⟨tI,⟨CJ,CI,CH⟩,⟨CM,CL,CK⟩,_⟩:=tJ)
   |(go_at_call 143;refine gB (R.out _) λI i=>?_;have Ep:RB w m a b c I:=aeE (by first|exact lx|exact lx.drew|exact(lx.drew).drew) i;have JX:=Ep;obtain⟨JR,⟨PU,PT,PS⟩,⟨PY,PW,PV⟩,_⟩:=JX))
 go_wp2_with fail
 refine bR ⟨rfl,?_⟩;exact Ep.laid _ _ _
end
section
open Go.RowKit
def nef{k n:Nat}(h:k≠n):((k:Int)==(n:Int))=false:=by rw[Zs];omega
def vx(a b:Nat):au (ay a*ay b):=by
 have d:=eX a;have e:=eX b;have c:ay a*ay b<=9007199254740992*9007199254740992:=aa0 oM oM;unfold au;exact aam c dC
def xa(a:Nat):wd 0 (ay a)=ay a:=by have:=eX a;rw[wd0];omega
def pO{a b:Nat}(W:AK):Bf prog 142 #[NV (aE a) (bz a) (ay a) false,NV (aE b) (bz b) (ay b) false] W λe w'=>e=.returned (NV (aE a !=aE b) (bz a+bz b) (ay a*ay b) false)/\Np W W w':=by
 have:=E6 (n1:=aE a) (n2:=aE b) (l1:=false) (l2:=false) (e1:=bz a) (e2:=bz b) (s1:=ay a) (s2:=ay b) (by have:=aV a;have:=aV b;unfold Nq;omega) W;rw[xa,xa]at this;exact this
def D8(op m a b c:Nat)(t:m<5)(r:U64 a)(s:U64 b)(z:af a<4)(A:af b<4)(w:AK):Bf prog 132 #[REC op m a b c] w (ai (j2 m a b).1 (j2 m a b).2 false w):=by
 have d:=Zp (λW=>aX a W);have f:=Zp (λW=>aX b W);have g:=jP r s;have h:=ig (aE a !=aE b) 9218868437227405312 oM;have B:=bC (x:=a);have C:=bC (x:=b);by_cases l:af a=3/\af b=0
 .have e:j2 m a b=(9221120237041090560,16):=by unfold j2;rw[ZC (.inl l)]
  rw[e];rw[l.1]at d;rw[l.2]at f;exact Jo op m a b c d f _ g w
 by_cases o:af a=0/\af b=3
 .have e:j2 m a b=(9221120237041090560,16):=by unfold j2;rw[ZC (.inr o)]
  rw[e];rw[o.1]at d;rw[o.2]at f;exact Jn op m a b c d f _ g w
 have u:j2 m a b=if af a=3\/af b=3 then(aF (aE a !=aE b)+9218868437227405312,0)
  else if af a=0\/af b=0 then(aF (aE a !=aE b),0)
  else az m (aE a !=aE b) (exN a*exN b) false (exE a+exE b):=by unfold j2;rw[Zr oM]
 rw[u];by_cases i:af a=3
 .rw[ZC (.inl i)];rw[i]at d;exact Jm op m a b c _ d f _ g _ h (nef (n:=0) oM) w
 by_cases j:af b=3
 .rw[ZC (.inr j)];rw[j]at f;exact Jl op m a b c _ d f _ g _ h (nef (n:=0) oM) (nef (n:=3) i) w
 rw[Zr oM];by_cases k:af a=0
 .rw[ZC (.inl k)];rw[k]at d;exact Py op m a b c _ d f _ g (nef (n:=3) j) w
 by_cases p:af b=0
 .rw[ZC (.inr p)];rw[p]at f;exact Px op m a b c _ d f _ g (nef (n:=3) i) (nef (n:=0) k) w
 rw[Zr oM];have v:exN a≠0:=oM;have y:exN b≠0:=oM;rw[<-Jj v y];have q:ay a*ay b≠0:=by rw[Ne,aa7,dR,dR];omega
 have D:=aV a;have E:=aV b;exact Pz op m a b c _ _ d f _ g _ _ _ _ _ _ _ _ _ _ _ (λW=>bu a r W) (λW=>bu b s W) (λW=>pO W) (λW=>fD _ false _ _ m (vx a b) q t oM oM W) (nef (n:=0) k) (nef (n:=3) i) (nef (n:=0) p) (nef (n:=3) j) w
end
section
open Go.RowKit
def sT(a:Nat):au (ay a*2^150):=by
 have b:=eX a;unfold au;exact ZB (aax b (Zy 150)) dC
def LC(a:Nat)(W:AK):Bf prog 145 #[W4 (ay a),iI 150] W λe w'=>e=.returned (W4 (ay a*2^150))/\Np W W w':=by
 have b:=sT a;have c:au (ay a):=by have:=vx a a;exact aam (abp _ (Zy 150)) b
 have:=da (ay a) c 150 dC dC W;rw[oH,show(150:Int).toNat=150 from rfl,aac b.out]at this;exact this
def jQ{x:Int}(a:-1000000<=x)(b:x<=1000000):Nq x=x:=by unfold Nq;omega
def Ex(op m a b c:Nat)(y:m<5)(s:U64 a)(t:U64 b)(D:af a<4)(E:af b<4)(w:AK):Bf prog 133 #[REC op m a b c] w (ai (ko m a b).1 (ko m a b).2 false w):=by
 have d:=Zp (λW=>aX a W);have f:=Zp (λW=>aX b W);have g:=jP s t;have i:=ig (aE a !=aE b) 9218868437227405312 oM;have F:=bC (x:=a);have G:=bC (x:=b);by_cases k:af a=3/\af b=3
 .have e:ko m a b=(9221120237041090560,16):=by unfold ko;rw[ZC (.inl k)]
  rw[e];rw[k.1]at d;rw[k.2]at f;exact Ku op m a b c d f _ g w
 by_cases j:af a=0/\af b=0
 .have e:ko m a b=(9221120237041090560,16):=by unfold ko;rw[ZC (.inr j)]
  rw[e];rw[j.1]at d;rw[j.2]at f;exact Kt op m a b c d f _ g w
 have z:ko m a b=if af a=3 then(aF (aE a !=aE b)+9218868437227405312,0)
  else if af b=3\/af a=0 then(aF (aE a !=aE b),0)
  else if af b=0 then(aF (aE a !=aE b)+9218868437227405312,8)
  else az m (aE a !=aE b) (mk2 (exN a*2^120/exN b) (decide (exN a*2^120%exN b=0))) false (exE a-120-exE b-1):=by unfold ko;rw[Zr oM]
 rw[z];by_cases h:af a=3
 .rw[ZC h];rw[h]at d;exact Nl op m a b c _ d f _ g _ i (nef (n:=3) oM) w
 rw[Zr h];by_cases l:af b=3
 .rw[ZC (.inl l)];rw[l]at f;exact Qm op m a b c _ d f _ g (nef (n:=3) h) w
 by_cases o:af a=0
 .rw[ZC (.inr o)];rw[o]at d;exact Ql op m a b c _ d f _ g (nef (n:=3) l) (nef (n:=0) oM) w
 rw[Zr oM];by_cases p:af b=0
 .rw[ZC p];rw[p]at f;exact Qo op m a b c _ d f _ g _ i (nef (n:=3) h) (nef (n:=0) o) w
 rw[Zr p];have u:exN a≠0:=oM;have v:exN b≠0:=oM;rw[<-Kq u v];have A:ay a≠0:=by rw[Ne,dR];exact u
 have B:ay b≠0:=by rw[Ne,dR];exact v
 have H:=aV a;have I:=aV b;have C:ay a*2^150/ay b≠0:=by
  have k:=eX b;have j:ay b<=ay a*2^150:=Zz (by omega:ay b<=2^150) (adm _ oM);have:=adO j oM;omega
 have q:au (ay a*2^150/ay b):=aam (aaM _ _) (sT a).out;have r:U64 (ay b):=by have:=eX b;unfold U64;omega
 exact Qn op m a b c _ _ d f _ g _ _ _ _ _ _ _ _ _ _ _ _ _ (λW=>bu a s W) (λW=>bu b t W) (λW=>LC a W) (λW=>by rw[xa];exact EV _ _ (sT a) r oM W) rfl (jQ oM oM) (jQ oM oM) (λW=>fD _ _ _ _ m q C y oM oM W) (nef (n:=0) o) (nef (n:=3) h) (nef (n:=0) p) (nef (n:=3) l) w
end
section
open Go.RowKit
variable{W:AK}{b g:Nat}
def D4{n:Bool}{e:Int}{s:Nat}{l:Bool}(h:NB W g n e s l)(i:b≠g)(a c d f:Aq):(cF (sC4 W b a c d f) g 0 (Value.bool (n))/\cF (sC4 W b a c d f) g 1 (iI (e))/\cF (sC4 W b a c d f) g 2 (iU (wd 0 (s)))/\cF (sC4 W b a c d f) g 3 (iU (wd 1 (s)))/\cF (sC4 W b a c d f) g 4 (iU (wd 2 (s)))/\cF (sC4 W b a c d f) g 5 (iU (wd 3 (s)))/\cF (sC4 W b a c d f) g 6 (Value.bool (l))):=(h.put4 i a c d f).1
def aH{p:Es}{v:Aq}(h:W p=v)(c:b≠p.block)(d f j:Aq):(sC3 W b d f j) p=v:=by
 have a:∀i:Nat,(aD b i:Es)≠p:=λi e=>c (by rw[<-e]);exact(ZA _ _ _ _ (a 2)).trans ((ZA _ _ _ _ (a 1)).trans ((ZA _ _ _ _ (a 0)).trans h))
def Ic{w:AK}{i B m a c:Nat}{o:Bool}{p:Int}{j Q:Nat}(h:((cF W w 1 (qB m)/\cF W w 2 (iU a)/\cF W w 3 (iU b)/\cF W w 4 (iU c))/\(cF W g 0 (Value.bool (o))/\cF W g 1 (iI (p))/\cF W g 2 (iU (wd 0 (j)))/\cF W g 3 (iU (wd 1 (j)))/\cF W g 4 (iU (wd 2 (j)))/\cF W g 5 (iU (wd 3 (j)))/\cF W g 6 (Value.bool (false)))/\(cF W i 0 (iU (wd 0 Q))/\cF W i 1 (iU (wd 1 Q))/\cF W i 2 (iU (wd 2 Q))/\cF W i 3 (iU (wd 3 Q)))))(l:B≠w)(k:B≠g)(n:B≠i)(d e f:Aq):((cF (sC3 W B d e f) w 1 (qB m)/\cF (sC3 W B d e f) w 2 (iU a)/\cF (sC3 W B d e f) w 3 (iU b)/\cF (sC3 W B d e f) w 4 (iU c))/\(cF (sC3 W B d e f) g 0 (Value.bool (o))/\cF (sC3 W B d e f) g 1 (iI (p))/\cF (sC3 W B d e f) g 2 (iU (wd 0 (j)))/\cF (sC3 W B d e f) g 3 (iU (wd 1 (j)))/\cF (sC3 W B d e f) g 4 (iU (wd 2 (j)))/\cF (sC3 W B d e f) g 5 (iU (wd 3 (j)))/\cF (sC3 W B d e f) g 6 (Value.bool (false)))/\(cF (sC3 W B d e f) i 0 (iU (wd 0 Q))/\cF (sC3 W B d e f) i 1 (iU (wd 1 Q))/\cF (sC3 W B d e f) i 2 (iU (wd 2 Q))/\cF (sC3 W B d e f) i 3 (iU (wd 3 Q)))):=by
 obtain⟨⟨q,r,s,t⟩,⟨u,v,x,y,z,A,C⟩,c0,D,E,F⟩:=h;exact⟨⟨aH q l _ _ _,aH r l _ _ _,aH s l _ _ _,aH t l _ _ _⟩,⟨aH u k _ _ _,aH v k _ _ _,aH x k _ _ _,aH y k _ _ _,aH z k _ _ _,aH A k _ _ _,aH C k _ _ _⟩,aH c0 n _ _ _,aH D n _ _ _,aH E n _ _ _,aH F n _ _ _⟩
def If(op m a b c T:Nat)(Ka:PC 42 #[.int .u64 a] (.int .i64 (T:Int)))(t U l:Bool)(o E h:Int)(f Q N r bt fl:Nat)(Ua:BC 141 #[.int .u64 a] (NV t o f false))(SH:BC 145 #[.agg #[.int .u64 1,.int .u64 0,.int .u64 0,.int .u64 0],.int .i64 252] (W4 N))
 (DV:BC 144 #[W4 N,.int .u64 (wd 0 f)] (.tuple #[W4 Q,.bool U]))
 (hE0:IntKind.i64.wrap (-252-o)=E)(hE1:Nq (-252-o)=E)
 (Ro:BC 146 #[NV false E Q U] (NV false h r l))(R:Hid (∀W,Bf prog 143 #[NV false h r l,.int .u8 m] W (ai bt fl false W)))
 (hs:(((a:Int)/9223372036854775808==1)=false))(B:((T:Int)==0)=false)(C:((T:Int)==3)=false)(w:AK):Bf prog 136 #[REC op m a b c] w (ai bt fl false w):=by
 go_enter func136,ntmps136;go_upto_region 8 with(go_at_call_of 42 (Value.int IntKind.u64 a);refine gW (Ka.out _) ?_);go_cut[4] (λs4 A=>∃g:Nat,s4=pT g 0/\NB A g t o f false/\RB w m a b c A)
 case first=>
  go_wp2_with fail
  refine gB (Ua.out _) λw1 V=>?_;have X:RB w m a b c w1:=aeE (aeG op) V;have hsz:=X.2.2.2.1
  go_wp2_with fail
  go_meet;refine⟨_,rfl,?_,by repeat'(first|with_reducible assumption|with_reducible refine RB.drew ?_|with_reducible refine aeF ?_ _|with_reducible refine RB.put7 ?_ oM _ _ _ _ _ _ _)⟩;repeat'(first|with_reducible assumption|with_reducible refine NB.put7 (n:=false) (e:=0) (s:=0) (l:=false) ?_|with_reducible refine NB.far7 ?_ oM _ _ _ _ _ _ _|with_reducible exact aeT (by first|rfl|(simp;done))|with_reducible exact aeU (by first|rfl|(simp;done))|with_reducible refine aeQ ?_ _|with_reducible refine aeP ?_)
 obtain⟨g,rfl,S,hK⟩:=hcut;clear Ka Ua hs B C;have D:=hK.1.1;have q0:=S;obtain⟨⟨x0,x1,x2,x3,x4,x5,x6⟩,Y,Z,aa,ab,ac,ag,am⟩:=q0;go_upto_region 9 with(fail);go_cut[5,6] (λs5 s6 A=>∃q:Nat,s5=pT q 0/\s6=.bool U/\K4 A q (.int .u64 (wd 0 Q)) (.int .u64 (wd 1 Q)) (.int .u64 (wd 2 Q)) (.int .u64 (wd 3 Q))/\NB A g t o f false/\RB w m a b c A)
 case first=>
  have uW:=S.1;have hl0:=S.lt;have hzX:=hK.2.2.2.1
  go_region_held3(λw'=>(w' (aD g 0)=Value.bool (t)/\w' (aD g 1)=some (Value.int .i64 (o))/\w' (aD g 2)=some (Value.int .u64 (wd 0 (f)))/\w' (aD g 3)=some (Value.int .u64 (wd 1 (f)))/\w' (aD g 4)=some (Value.int .u64 (wd 2 (f)))/\w' (aD g 5)=some (Value.int .u64 (wd 3 (f)))/\w' (aD g 6)=Value.bool (false)))
   (first
    |with_reducible exact CN
    |with_reducible exact D4 u oM _ _ _ _
    |with_reducible exact D4 (u.alloc _) (by first|(simp;omega)|omega) _ _ _ _
    |with_reducible exact CO
    |with_reducible exact uW
    |go_keep)
   (first
    |(go_at_call 145;refine gB (SH.out _) λw3 i=>?_;have F:NB w3 g t o f false:=aeH nB i;have CO:=F.1;have Zl:=F.lt;have CR:RB w m a b c w3:=aeE rb1 i;have tG:=i.size;(try simp at tG);(try((first|have j:=aeS (aeD _ _ _ _ _ _) i|have j:=aeS (aeB (aeD _ _ _ _ _ _)) i|have j:=aeS (aeB (aeB (aeD _ _ _ _ _ _))) i);(try simp at j);have x:=j;have PR:=j.lt;obtain⟨⟨G,H,I,J⟩,K,L,M,O⟩:=j)))
    |(go_at_call 144;refine gB (DV.out _) λw4 d=>?_;have u:NB w4 g t o f false:=aeH nB d;have CN:=u.1;have Zk:=u.lt;have CQ:RB w m a b c w4:=aeE rb1 d;have tF:=d.size;(try simp at tF);(try((first|have k:=aeS (aeD _ _ _ _ _ _) d|have k:=aeS (aeB (aeD _ _ _ _ _ _)) d|have k:=aeS (aeB (aeB (aeD _ _ _ _ _ _))) d);(try simp at k);have zq4k:=k;have PQ:=k.lt;obtain⟨⟨G,H,I,J⟩,K,L,M,O⟩:=k));(try((first|have p:=aeS x d|have p:=aeS (aeB x) d);(try simp at p);have zq5k:=p;have PO:=p.lt;obtain⟨⟨G,H,I,J⟩,K,L,M,O⟩:=p))))
  all_goals
   go_wp2_with fail
   go_meet;refine⟨_,rfl,rfl,?_,by repeat'(first|with_reducible assumption|with_reducible refine aeP ?_|with_reducible refine aeQ ?_ _|with_reducible refine NB.put4 ?_ oM _ _ _ _),by repeat'(first|with_reducible assumption|with_reducible refine RB.drew ?_|with_reducible refine aeF ?_ _|with_reducible refine RB.put4 ?_ oM _ _ _ _)⟩;refine⟨⟨?_,?_,?_,?_⟩,?_,?_,?_,?_⟩<;>(go_simp;done)
 obtain⟨q,rfl,rfl,z0,p1,v⟩:=hcut;clear S hK D x0 x1 x2 x3 x4 x5 x6 Y Z aa ab ac ag am SH DV;have D:=v.1.1;have CP:=And.intro v.1 (And.intro p1.1 z0.1);have hl7:=z0.lt;have hl1:=p1.lt;have hne:w+1≠g:=λe=>by have h:=p1.1.1;rw[<-e,v.2.1.1]at h;exact absurd h sM
 have P:w+1≠q:=λe=>by have h:=z0.1.2.1;rw[<-e,v.2.1.2.1]at h;exact absurd h sM
 go_upto_region 10 with(fail)
 go_region_held3(λw'=>((w' (aD w 1)=some (.int .u8 m)/\w' (aD w 2)=some (.int .u64 a)/\w' (aD w 3)=some (.int .u64 b)/\w' (aD w 4)=some (.int .u64 c))/\(w' (aD g 0)=Value.bool (t)/\w' (aD g 1)=some (Value.int .i64 (o))/\w' (aD g 2)=some (Value.int .u64 (wd 0 (f)))/\w' (aD g 3)=some (Value.int .u64 (wd 1 (f)))/\w' (aD g 4)=some (Value.int .u64 (wd 2 (f)))/\w' (aD g 5)=some (Value.int .u64 (wd 3 (f)))/\w' (aD g 6)=Value.bool (false))/\(w' (aD q 0)=some (.int .u64 (wd 0 Q))/\w' (aD q 1)=some (.int .u64 (wd 1 Q))/\w' (aD q 2)=some (.int .u64 (wd 2 Q))/\w' (aD q 3)=some (.int .u64 (wd 3 Q)))))
  (first
   |with_reducible exact GN
   |with_reducible exact Ic GN oM hne P _ _ _
   |with_reducible exact JU
   |with_reducible exact CP
   |go_keep)
  (first
   |(go_at_call 146;refine gB (Ro.out _) λw5 y=>?_;have p_5:NB w5 g t o f false:=aeH nB y;have z_5:K4 w5 q (.int .u64 (wd 0 Q)) (.int .u64 (wd 1 Q)) (.int .u64 (wd 2 Q)) (.int .u64 (wd 3 Q)):=aeS (by repeat'(first|with_reducible assumption|refine aeB ?_|refine K4.alloc ?_ oM _)) y;have J1:RB w m a b c w5:=aeE rb1 y;have JZ:=J1;obtain⟨JW,⟨OF,OD,OB⟩,⟨OL,OJ,OH⟩,_⟩:=JZ;have JU:=And.intro JW (And.intro p_5.1 z_5.1))
   |(go_at_call 143;refine gB (R.out _) λw6 z=>?_;have p_6:NB w6 g t o f false:=aeH nB z;have z_6:K4 w6 q (.int .u64 (wd 0 Q)) (.int .u64 (wd 1 Q)) (.int .u64 (wd 2 Q)) (.int .u64 (wd 3 Q)):=aeS (by repeat'(first|with_reducible assumption|refine aeB ?_|refine K4.alloc ?_ oM _)) z;have GO:RB w m a b c w6:=aeE rb1 z;have JY:=GO;obtain⟨JV,⟨OE,OC,OA⟩,⟨OK,OI,OG⟩,_⟩:=JY;have GN:=And.intro JV (And.intro p_6.1 z_6.1)))
 all_goals
  go_wp2_with fail
  refine bR ⟨rfl,?_⟩;exact GO.laid _ _ _
def NC(op m a b c I d:Nat)(U:PC 42 #[.int .u64 a] (.int .i64 (I:Int)))(p V:Bool)(f E:Int)(r N q X Y:Nat)(Z:BC 141 #[.int .u64 a] (NV p f r false))(J:128<=d)(hk1:d<=130)
 (h:Hid (∀j:Nat,128<=j->j<d->((f-j).tmod 3 !=0)))(t:((f-d).tmod 3 !=0)=false)(hw:Hid (∀j:Nat,j<=130->Nq (f-j)=f-j))(hd:(f-d).tdiv 3=E)(hE0:Nq E=E)
 (SH:BC 145 #[W4 r,.int .i64 d] (W4 N))
 (CU:BC 147 #[W4 N] (.tuple #[.int .u64 q,.bool V]))
 (R:Hid (∀W,Bf prog 143 #[.agg #[.bool p,.int .i64 E,.int .u64 q,.int .u64 0,.int .u64 0,.int .u64 0,.bool V],.int .u8 m] W (ai X Y false W)))
 (u:((I:Int)==0)=false)(v:((I:Int)==3)=false)(w:AK):Bf prog 137 #[REC op m a b c] w (ai X Y false w):=by
 go_enter func137,ntmps137;go_upto_region 5 with(go_at_call_of 42 (Value.int IntKind.u64 a);refine gW (U.out _) ?_);go_cut[3] (λs4 wx=>∃g:Nat,s4=pT g 0/\NB wx g p f r false/\RB w m a b c wx)
 case first=>
  go_wp2_with fail
  refine gB (Z.out _) λw1 K=>?_;have L:RB w m a b c w1:=aeE (aeG op) K;have hsz:=L.2.2.2.1
  go_wp2_with fail
  go_meet;refine⟨_,rfl,?_,by repeat'(first|with_reducible assumption|with_reducible refine RB.drew ?_|with_reducible refine aeF ?_ _|with_reducible refine RB.put7 ?_ oM _ _ _ _ _ _ _)⟩;repeat'(first|with_reducible assumption|with_reducible refine NB.put7 (n:=false) (e:=0) (s:=0) (l:=false) ?_|with_reducible refine NB.far7 ?_ oM _ _ _ _ _ _ _|with_reducible exact aeT (by first|rfl|(simp;done))|with_reducible exact aeU (by first|rfl|(simp;done))|with_reducible refine aeQ ?_ _|with_reducible refine aeP ?_)
 obtain⟨g,rfl,M,hK⟩:=hcut;clear U Z u v;have x:=hK.1.1;have q0:=M;obtain⟨⟨x0,x1,x2,x3,x4,x5,x6⟩,y,z,A,B,C,D,F⟩:=q0
 go_wp2_with fail
 go_loop[4] (λk=>∃j:Nat,k=.int .i64 j/\128<=j/\j<=d) (λk=>d-(intOf k).toNat)
 case atStart=>exact⟨128,rfl,oM,J⟩
 obtain⟨j,rfl,O,P⟩:=hrel;have hwj:=hw.out j oM;by_cases hj:j<d
 .have hm:=h.out j O hj;clear t hd
  go_wp2_with fail
  go_round
  case rel=>exact⟨j+1,rfl,oM,oM⟩
  simp[intOf];omega
 obtain rfl:j=d:=oM;clear hj P
 go_wp2_with fail
 refine gB (SH.out _) λw3 i=>?_;have G:NB w3 g p f r false:=aeH M i;have CR:RB w m a b c w3:=aeE hK i;clear M hK x i SH x0 x1 x2 x3 x4 x5 x6 y z A B C D F h hw
 go_wp2_with fail
 refine gB (CU.out _) λw4 o=>?_;have Q:NB w4 g p f r false:=aeH G o;have CQ:RB w m a b c w4:=aeE CR o;clear G CR o CU;have x:=CQ.1.1;obtain⟨⟨x0,x1,x2,x3,x4,x5,x6⟩,y,z,A,B,C,D,F⟩:=Q
 go_wp2_with fail
 refine gB (R.out _) λw5 S=>?_;have H:=CQ.step S;have T:=H;obtain⟨_,⟨k0,k1,k2⟩,⟨f0,f1,f2⟩,_⟩:=T
 go_wp2_with fail
 refine bR ⟨rfl,?_⟩;exact H.laid _ _ _
end
end Go.Proofs.YtldmbneckcjonaaDoor
