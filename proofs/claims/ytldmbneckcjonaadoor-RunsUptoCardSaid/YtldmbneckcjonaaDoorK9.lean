/- A part of the proof. -/
import Derived.RangeFuncNested
import Derived.RangeFuncBound
import Derived.Shelf.RegionOpen
import Derived.OwnWalkIn
import Derived.LoopNIn
import Derived.LoopIn
import Derived.Test.YtldmbneckcjonaaDoorK8
set_option linter.defProp false
set_option linter.unusedVariables false
set_option linter.unusedSimpArgs false
set_option maxRecDepth 100000
set_option maxHeartbeats 8000000
noncomputable section
namespace Go.Proofs.YtldmbneckcjonaaDoor
open Go renaming World->AK,Value->Aq,Goroutine->Ar,Calls->Bf,undef->C0,Addr->Es,TypeId->E1,Program->E2,stepG->KC,Frame->K0,execOp->Lk,bits->Na,Event->Nc
open Go.RowKit renaming Below->Np,wrap64->Nq
open Go.Proofs.Tryd
open Go.RowKit
section
open Go.Shelf
variable{E:Nat}{W W':AK}
attribute[local go_sem] Oper.semAt_some
structure It(E oB eB:Nat)(A:Option Es)(cap:Nat)(rs:List LR)(f:Nat)(W:AK):Prop where
 ho:W (aD oB 0)=some (.slice A rs cap)
 he:W (aD eB 0)=pT E 0
 hc:W (aD E 0)=iH f
 hz:W.frozen? (aD E 0)=false
 rows:bE W A 5 (rs.map gvC)
 neA:∀a,A=some a->a.block≠E
 neo:oB≠E/\oB<W
 nee:eB≠E/\eB<W
 ltE:E<W
 ne0:E≠0
 tab:aT W
def aT.belowX(h:aT W)(f:aj W E W W')(g:E≠0):aT W':=by
 have a:∀(o:Nat)(v:Aq),W (aD 0 o)=v->W' (aD 0 o)=v:=by
  intro o v b;have c:0<(W:Nat):=by
   unfold World.cell? at b;split at b
   .rename_i i;exact(Zq.1 i).1
   cases b
  exact(f.cell (p:=aD 0 o) c (abj g)).trans b
 intro op d e;exact⟨a _ _ (h op d e).1,a _ _ (h op d e).2⟩
def It.step{b c:Nat}{A:Option Es}{cap:Nat}{rs:List LR}{f f':Nat}(h:It E b c A cap rs f W)(a:aj W E W W')(d:cF W' E 0 (iH f'))(e:fZ W' E 0):It E b c A cap rs f' W':=by
 have:=a.size;exact⟨(a.cell (p:=aD b 0) h.neo.2 h.neo.1).trans h.ho,(a.cell (p:=aD c 0) h.nee.2 h.nee.1).trans h.he,d,e,h.rows.belowX a h.neA,h.neA,⟨h.neo.1,by have:=h.neo.2;omega⟩,⟨h.nee.1,by have:=h.nee.2;omega⟩,by have:=h.ltE;omega,h.ne0,h.tab.belowX a h.ne0⟩
def PK{n:Nat}(hn:1<=n)(l E oB B:Nat)(A:Option Es)(cap:Nat)(rs:List LR)(hl:(rs:Nat)<=1048576)(x:LR->Nat×Nat×Bool)(hx:∀r,(x r).2.1<256)(f0:Nat)(hf0:f0<1073741824)
 (hDo:∀r,r∈rs->∀W,aT W->Bf prog 29 #[REC r.o r.m r.a r.b r.c] W (ai (x r).1 (x r).2.1 (x r).2.2 W))
 (J Jx:Nat->AK->Prop)(hJ:∀k W W',J k W->aj (W:Nat) E W W'->J k W')
 (hY:∀(k:Nat)(r:LR)(W:AK),rs[k]?=some r->J k W->It E oB B A cap rs (aW x f0 (rs.take (k+1))) W->YieldAt Fence.wide (n-1) prog l #[.int .i64 k,nE (x r).1 (x r).2.1 (x r).2.2] W λe W'=>
  (e=.returned (.bool true)/\J (k+1) W'/\It E oB B A cap rs (aW x f0 (rs.take (k+1))) W')\/(e=.returned (.bool false)/\Jx (k+1) W'/\It E oB B A cap rs (aW x f0 (rs.take (k+1))) W'))
 (W:AK)(h0:J 0 W)(hI:It E oB B A cap rs f0 W):
 CallsIn Fence.wide n prog 57 #[.func (.yield l) #[] #[],.pointer (some ⟨oB,0,none⟩),.pointer (some ⟨B,0,none⟩)] W λe W'=>(∃v,e=.returned v)/\
  ((J (rs:Nat) W'/\It E oB B A cap rs (aW x f0 rs) W')\/∃k,k<(rs:Nat)/\Jx (k+1) W'/\It E oB B A cap rs (aW x f0 (rs.take (k+1))) W'):=by
 refine callsIn_of_wp func57 rfl trivial ?_ rfl;simp only[ntmps57,aah,Z6,aaA,Nat.reduceAdd,Nat.reduceSub,Array.replicate_succ,Array.replicate_zero,List.push_toArray,List.append_toArray,aeN,abJ];have hO:=hI.ho;replace hI:=Zp hI;replace hJ:=Zp hJ;replace hY:=Zp hY;replace hDo:=Zp hDo;replace hx:=Zp hx
 gi_wp2
 gi_loopw[4,5,6,9] (λ_ _ _ i wr=>∃k:Nat,k<=(rs:Nat)/\i=.int .i64 k/\Hid (J k wr/\It E oB B A cap rs (aW x f0 (rs.take k)) wr)) (λ_ _ _ i _=>(rs:Nat)-(intOf i).toNat)
 case atStart=>exact⟨0,Z7 _,rfl,Zp ⟨h0,by simpa[aW]using hI.out⟩⟩
 obtain⟨k,hk,rfl,hrel⟩:=hrel;obtain⟨X,h⟩:=hrel.out;by_cases R:k<(rs:Nat)
 .obtain⟨r,Y⟩:∃r,rs[k]?=some r:=⟨_,ZN R⟩;obtain⟨⟨ab,ao,asp⟩,hA,hsp,hblk,K⟩:=h.rows k (gvC r) (by simp[Y]);subst hA;simp only at hsp hblk K;subst hsp;have hne:ab≠E:=h.neA _ rfl;have c0:wr ⟨ab,ao+k*5,none⟩=some (.int .u8 r.o):=K 0 _ rfl;have c1:wr ⟨ab,ao+k*5+1,none⟩=some (.int .u8 r.m):=K 1 _ rfl;have c2:wr ⟨ab,ao+k*5+2,none⟩=some (.int .u64 r.a):=K 2 _ rfl;have c3:wr ⟨ab,ao+k*5+3,none⟩=some (.int .u64 r.b):=K 3 _ rfl;have c4:wr ⟨ab,ao+k*5+4,none⟩=some (.int .u64 r.c):=K 4 _ rfl;have ead:(⟨ab,ao,none⟩:Es).add (k*5)=⟨ab,ao+k*5,none⟩:=by simp[Addr.add]
  have hkp:(k:Int)<(rs:Nat):=oM;have hdo:=hDo.out r (aae Y);have hfl:=hx.out r;have d:=vD (x:=x) (F:=f0) Y;have hF:=rJ hx.out hf0 (rs.take k);have hE:=h.ltE;have hob:=r.o_lt;replace K:=Zp K;replace h:=Zp h;replace X:=Zp X;refine aek.2 ?_;go_upto_region 3 with(fail);have L:aj (wr:Nat) E wr (wr.alloc (.cells #[.int .u8 r.o,.int .u8 r.m,.int .u64 r.a,.int .u64 r.b,.int .u64 r.c] 59)):=(aj.refl _).alloc (Zo _) _;have r0:(wr.alloc (.cells #[.int .u8 r.o,.int .u8 r.m,.int .u64 r.a,.int .u64 r.b,.int .u64 r.c] 59)) ⟨(wr:Nat),0,none⟩=some (.int .u8 r.o):=by rw[ZK _ _ _ _ rfl];rfl
  have r1:(wr.alloc (.cells #[.int .u8 r.o,.int .u8 r.m,.int .u64 r.a,.int .u64 r.b,.int .u64 r.c] 59)) ⟨(wr:Nat),1,none⟩=some (.int .u8 r.m):=by rw[ZK _ _ _ _ rfl];rfl
  have r2:(wr.alloc (.cells #[.int .u8 r.o,.int .u8 r.m,.int .u64 r.a,.int .u64 r.b,.int .u64 r.c] 59)) ⟨(wr:Nat),2,none⟩=some (.int .u64 r.a):=by rw[ZK _ _ _ _ rfl];rfl
  have r3:(wr.alloc (.cells #[.int .u8 r.o,.int .u8 r.m,.int .u64 r.a,.int .u64 r.b,.int .u64 r.c] 59)) ⟨(wr:Nat),3,none⟩=some (.int .u64 r.b):=by rw[ZK _ _ _ _ rfl];rfl
  have r4:(wr.alloc (.cells #[.int .u8 r.o,.int .u8 r.m,.int .u64 r.a,.int .u64 r.b,.int .u64 r.c] 59)) ⟨(wr:Nat),4,none⟩=some (.int .u64 r.c):=by rw[ZK _ _ _ _ rfl];rfl
  have hs1:(wr:Nat)<((wr.alloc (.cells #[.int .u8 r.o,.int .u8 r.m,.int .u64 r.a,.int .u64 r.b,.int .u64 r.c] 59)):Nat):=sM;have hE1:(wr.alloc (.cells #[.int .u8 r.o,.int .u8 r.m,.int .u64 r.a,.int .u64 r.b,.int .u64 r.c] 59)) ⟨E,0,none⟩=some (.int .u32 (aW x f0 (rs.take k))):=(aaU _ _ _ hE).trans h.out.hc;have hZ1:(wr.alloc (.cells #[.int .u8 r.o,.int .u8 r.m,.int .u64 r.a,.int .u64 r.b,.int .u64 r.c] 59)).frozen? ⟨E,0,none⟩=false:=(abW _ _ _ hE).trans h.out.hz;generalize wr.alloc (.cells #[.int .u8 r.o,.int .u8 r.m,.int .u64 r.a,.int .u64 r.b,.int .u64 r.c] 59)=W1 at L r0 r1 r2 r3 r4 hs1 hE1 hZ1⊢;have hN:(wr:Nat)≠E:=oM;have hT1:aT W1:=h.out.tab.belowX L h.out.ne0;have heB1:W1 ⟨B,0,none⟩=some (.pointer (some ⟨E,0,none⟩)):=(L.cell (p:=⟨B,0,none⟩) h.out.nee.2 h.out.nee.1).trans h.out.he;have heBlt:=h.out.nee.2;have heBne:=h.out.nee.1;have hEN:E≠(wr:Nat):=abj hN;replace L:=Zp L;replace hT1:=Zp hT1;generalize hrb:(wr:Nat)=Z at L r0 r1 r2 r3 r4 hs1 hN hEN heBlt hE hblk⊢;clear c0 c1 c2 c3 c4 ead;obtain⟨⟨M,f,j⟩,hxr⟩:∃t,x r=t:=⟨_,rfl⟩;rw[hxr]at hdo hfl d;simp only at hdo hfl d;go_upto_region 4 with(go_at_call 29;refine gB (hdo W1 hT1.out) λS T=>?_);have hb1s:=T.size;have q0:(S.alloc (.cells #[.int .u64 M,.int .u8 f,.bool j] 56)) ⟨(S:Nat),0,none⟩=some (.int .u64 M):=by rw[ZK _ _ _ _ rfl];rfl
  have q1:(S.alloc (.cells #[.int .u64 M,.int .u8 f,.bool j] 56)) ⟨(S:Nat),1,none⟩=some (.int .u8 f):=by rw[ZK _ _ _ _ rfl];rfl
  have q2:(S.alloc (.cells #[.int .u64 M,.int .u8 f,.bool j] 56)) ⟨(S:Nat),2,none⟩=some (.bool j):=by rw[ZK _ _ _ _ rfl];rfl
  have q3:(S.alloc (.cells #[.int .u64 M,.int .u8 f,.bool j] 56)) ⟨E,0,none⟩=some (.int .u32 (aW x f0 (rs.take k))):=(aaU _ _ _ (show E<_ by omega)).trans ((T.cell (p:=⟨E,0,none⟩) (show E<_ by omega)).trans hE1);have q4:(S.alloc (.cells #[.int .u64 M,.int .u8 f,.bool j] 56)).frozen? ⟨E,0,none⟩=false:=(abW _ _ _ (show E<_ by omega)).trans ((T.frozen (p:=⟨E,0,none⟩) (show E<_ by omega)).trans hZ1);have q5:(S.alloc (.cells #[.int .u64 M,.int .u8 f,.bool j] 56)) ⟨Z,0,none⟩=some (.int .u8 r.o):=(aaU _ _ _ (show Z<_ by omega)).trans ((T.cell (p:=⟨Z,0,none⟩) (show Z<_ by omega)).trans r0);have q6:(S.alloc (.cells #[.int .u64 M,.int .u8 f,.bool j] 56)) ⟨B,0,none⟩=some (.pointer (some ⟨E,0,none⟩)):=(aaU _ _ _ (show B<_ by omega)).trans ((T.cell (p:=⟨B,0,none⟩) (show B<_ by omega)).trans heB1);have q7:Hid (aj Z E wr (S.alloc (.cells #[.int .u64 M,.int .u8 f,.bool j] 56))):=Zp ((L.out.trans (.of (T.mono oM))).alloc oM _);have g:(S:Nat)≠E:=oM;have hneb':E≠(S:Nat):=oM;generalize hxb:(S:Nat)=C at q0 q1 q2 q3 q4 q5 q6 q7 g hneb'⊢;generalize S.alloc (.cells #[.int .u64 M,.int .u8 f,.bool j] 56)=W2 at q0 q1 q2 q3 q4 q5 q6 q7⊢;clear r0 r1 r2 r3 r4 hE1 hZ1 heB1 hT1 L T hb1s hdo hs1;by_cases hc:r.o=10/\j=false
  .obtain⟨ho10,rfl⟩:=hc;have hop:(r.o:Int)=10:=oM;(have hop2:((r.o:Int)==10)=true:=by simp[hop]);rw[ZC ⟨ho10,rfl⟩]at d;replace d:=Zp d;go_upto_region 6 with(go_at_call 58;refine(Fg E _ _ q3 q4).mono ?_;rintro e w3⟨⟨_,rfl⟩,rfl⟩);obtain⟨f1,q⟩:∃f1:Nat,f1=0:=⟨0,rfl⟩;(have w:(W2.setCell ⟨E,0,none⟩ (.int .u32 0)) ⟨E,0,none⟩=some (.int .u32 f1):=by subst q;simp[go_sem,q3]);replace d:Hid (aW x f0 (rs.take (k+1))=f1|||f):=Zp (by rw[q];exact d.out);(have p1:(W2.setCell ⟨E,0,none⟩ (.int .u32 0)).frozen? ⟨E,0,none⟩=false:=by simpa using q4);(have p2:(W2.setCell ⟨E,0,none⟩ (.int .u32 0)) ⟨B,0,none⟩=some (.pointer (some ⟨E,0,none⟩)):=by simp[go_sem,q6,heBne]);(have D:(W2.setCell ⟨E,0,none⟩ (.int .u32 0)) ⟨C,0,none⟩=some (.int .u64 M):=by simp[go_sem,q0,g]);(have G:(W2.setCell ⟨E,0,none⟩ (.int .u32 0)) ⟨C,1,none⟩=some (.int .u8 f):=by simp[go_sem,q1,g]);(have H:(W2.setCell ⟨E,0,none⟩ (.int .u32 0)) ⟨C,2,none⟩=some (.bool false):=by simp[go_sem,q2,g]);have I:Hid (aj Z E wr (W2.setCell ⟨E,0,none⟩ (.int .u32 0))):=Zp (q7.out.set 0 _);clear q0 q1 q2 q3 q4 q5 q6 q7;generalize W2.setCell ⟨E,0,none⟩ (.int .u32 0)=s at w p1 p2 D G H I⊢;have hf1:f1<4294967296:=oM;clear hop hop2 q
   go_still_tail 6,(by kernel_rfl)
   replace w:s.drew ⟨E,0,none⟩=some (.int .u32 f1):=w;replace p1:s.drew.frozen? ⟨E,0,none⟩=false:=p1;replace p2:s.drew ⟨B,0,none⟩=some (.pointer (some ⟨E,0,none⟩)):=p2;replace D:s.drew ⟨C,0,none⟩=some (.int .u64 M):=D;replace G:s.drew ⟨C,1,none⟩=some (.int .u8 f):=G;replace H:s.drew ⟨C,2,none⟩=some (.bool false):=H;replace I:Hid (aj Z E wr s.drew):=Zp I.out.drew;change wpList _ _ _ _ _ s.drew;generalize s.drew=W4 at w p1 p2 D G H I⊢;have u:=Ck E f1 f hf1 oM W4 w p1;replace u:=Zp u;go_upto_region 7 with(go_at_call 55;refine u.out.mono ?_;rintro e w5⟨rfl,rfl⟩);rename_i K7 U;replace U:=Zp U;(have g0:(W4.setCell ⟨E,0,none⟩ (.int .u32 ((f1|||f:Nat):Int))) ⟨E,0,none⟩=some (.int .u32 ((f1|||f:Nat):Int)):=by simp[go_sem,w]);(have g1:(W4.setCell ⟨E,0,none⟩ (.int .u32 ((f1|||f:Nat):Int))).frozen? ⟨E,0,none⟩=false:=by simpa using p1);(have g3:(W4.setCell ⟨E,0,none⟩ (.int .u32 ((f1|||f:Nat):Int))) ⟨C,0,none⟩=some (.int .u64 M):=by simp[go_sem,D,g]);(have g4:(W4.setCell ⟨E,0,none⟩ (.int .u32 ((f1|||f:Nat):Int))) ⟨C,1,none⟩=some (.int .u8 f):=by simp[go_sem,G,g]);(have g5:(W4.setCell ⟨E,0,none⟩ (.int .u32 ((f1|||f:Nat):Int))) ⟨C,2,none⟩=some (.bool false):=by simp[go_sem,H,g]);have V:aj Z E wr (W4.setCell ⟨E,0,none⟩ (.int .u32 ((f1|||f:Nat):Int))):=I.out.set 0 _;clear w p1 p2 D G H I u;generalize W4.setCell ⟨E,0,none⟩ (.int .u32 ((f1|||f:Nat):Int))=W5 at g0 g1 g3 g4 g5 V⊢;subst hrb;have N:It E oB B (some ⟨ab,ao,none⟩) cap rs (aW x f0 (rs.take (k+1))) W5:=h.out.step V (by rw[d.out];exact g0) g1;have O:=hJ.out k wr W5 X.out V;have y:=hY.out k r W5 Y O N;rw[hxr]at y;simp only at y;obtain⟨yfn,ytmps,P,ybody,hy,hR⟩:=y;clear g0 g1 V N O d;refine(aek (n:=n)).1 ?_
   gi_wp2
   refine hR.mono ?_;rintro e W' (⟨rfl,hJ',z⟩|⟨rfl,Q,z⟩)
   .gi_wp2
    refine U.out _ _ ?_
    go_wp2
    go_roundw
    case rel=>exact⟨k+1,R,by go_num,Zp ⟨hJ',z⟩⟩
    simp[intOf];omega
   gi_wp2
   refine U.out _ _ ?_
   go_wp2
   refine aaT (results_none rfl _ _ _) rfl ?_;exact⟨⟨_,rfl⟩,.inr ⟨k,R,Q,z⟩⟩
  have hnc:((r.o:Int)==10&&!j)=false:=by
   cases j with
   |true=>simp
   |false=>simp at hc⊢;omega
  rw[Zr hc]at d;replace d:=Zp d;have w:=q3;have p1:=q4;have p2:=q6;have D:=q0;have G:=q1;have H:=q2;have I:=q7;rcases aeh ((r.o:Int)==10)with ho|ho
  .obtain rfl:j=true:=by
    cases j with
    |true=>rfl
    |false=>rw[ho]at hnc;cases hnc
   (have ho':(r.o:Int)=10:=by simpa using ho);go_upto_region 6 with(fail);clear q0 q1 q2 q3 q4 q5 q6 q7 ho ho' hnc;obtain⟨f1,q⟩:∃f1:Nat,aW x f0 (rs.take k)=f1:=⟨_,rfl⟩;rw[q]at w hF;have hf1:f1<4294967296:=oM;replace d:Hid (aW x f0 (rs.take (k+1))=f1|||f):=Zp (by rw[<-q];exact d.out);clear q;generalize W2=s at w p1 p2 D G H I⊢
   go_still_tail 6,(by kernel_rfl)
   replace w:s.drew ⟨E,0,none⟩=some (.int .u32 f1):=w;replace p1:s.drew.frozen? ⟨E,0,none⟩=false:=p1;replace p2:s.drew ⟨B,0,none⟩=some (.pointer (some ⟨E,0,none⟩)):=p2;replace D:s.drew ⟨C,0,none⟩=some (.int .u64 M):=D;replace G:s.drew ⟨C,1,none⟩=some (.int .u8 f):=G;replace H:s.drew ⟨C,2,none⟩=some (.bool true):=H;replace I:Hid (aj Z E wr s.drew):=Zp I.out.drew;change wpList _ _ _ _ _ s.drew;generalize s.drew=W4 at w p1 p2 D G H I⊢;have u:=Ck E f1 f hf1 oM W4 w p1;replace u:=Zp u;go_upto_region 7 with(go_at_call 55;refine u.out.mono ?_;rintro e w5⟨rfl,rfl⟩);rename_i K7 U;replace U:=Zp U;(have g0:(W4.setCell ⟨E,0,none⟩ (.int .u32 ((f1|||f:Nat):Int))) ⟨E,0,none⟩=some (.int .u32 ((f1|||f:Nat):Int)):=by simp[go_sem,w]);(have g1:(W4.setCell ⟨E,0,none⟩ (.int .u32 ((f1|||f:Nat):Int))).frozen? ⟨E,0,none⟩=false:=by simpa using p1);(have g3:(W4.setCell ⟨E,0,none⟩ (.int .u32 ((f1|||f:Nat):Int))) ⟨C,0,none⟩=some (.int .u64 M):=by simp[go_sem,D,g]);(have g4:(W4.setCell ⟨E,0,none⟩ (.int .u32 ((f1|||f:Nat):Int))) ⟨C,1,none⟩=some (.int .u8 f):=by simp[go_sem,G,g]);(have g5:(W4.setCell ⟨E,0,none⟩ (.int .u32 ((f1|||f:Nat):Int))) ⟨C,2,none⟩=some (.bool true):=by simp[go_sem,H,g]);have V:aj Z E wr (W4.setCell ⟨E,0,none⟩ (.int .u32 ((f1|||f:Nat):Int))):=I.out.set 0 _;clear w p1 p2 D G H I u;generalize W4.setCell ⟨E,0,none⟩ (.int .u32 ((f1|||f:Nat):Int))=W5 at g0 g1 g3 g4 g5 V⊢;subst hrb;have N:It E oB B (some ⟨ab,ao,none⟩) cap rs (aW x f0 (rs.take (k+1))) W5:=h.out.step V (by rw[d.out];exact g0) g1;have O:=hJ.out k wr W5 X.out V;have y:=hY.out k r W5 Y O N;rw[hxr]at y;simp only at y;obtain⟨yfn,ytmps,P,ybody,hy,hR⟩:=y;clear g0 g1 V N O d;refine(aek (n:=n)).1 ?_
   gi_wp2
   refine hR.mono ?_;rintro e W' (⟨rfl,hJ',z⟩|⟨rfl,Q,z⟩)
   .gi_wp2
    refine U.out _ _ ?_
    go_wp2
    go_roundw
    case rel=>exact⟨k+1,R,by go_num,Zp ⟨hJ',z⟩⟩
    simp[intOf];omega
   gi_wp2
   refine U.out _ _ ?_
   go_wp2
   refine aaT (results_none rfl _ _ _) rfl ?_;exact⟨⟨_,rfl⟩,.inr ⟨k,R,Q,z⟩⟩
  have ho':¬(r.o:Int)=10:=by simpa using ho
  go_upto_region 6 with(fail);clear q0 q1 q2 q3 q4 q5 q6 q7 ho ho' hnc;obtain⟨f1,q⟩:∃f1:Nat,aW x f0 (rs.take k)=f1:=⟨_,rfl⟩;rw[q]at w hF;have hf1:f1<4294967296:=oM;replace d:Hid (aW x f0 (rs.take (k+1))=f1|||f):=Zp (by rw[<-q];exact d.out);clear q;generalize W2=s at w p1 p2 D G H I⊢
  go_still_tail 6,(by kernel_rfl)
  replace w:s.drew ⟨E,0,none⟩=some (.int .u32 f1):=w;replace p1:s.drew.frozen? ⟨E,0,none⟩=false:=p1;replace p2:s.drew ⟨B,0,none⟩=some (.pointer (some ⟨E,0,none⟩)):=p2;replace D:s.drew ⟨C,0,none⟩=some (.int .u64 M):=D;replace G:s.drew ⟨C,1,none⟩=some (.int .u8 f):=G;replace H:s.drew ⟨C,2,none⟩=some (.bool j):=H;replace I:Hid (aj Z E wr s.drew):=Zp I.out.drew;change wpList _ _ _ _ _ s.drew;generalize s.drew=W4 at w p1 p2 D G H I⊢;have u:=Ck E f1 f hf1 oM W4 w p1;replace u:=Zp u;go_upto_region 7 with(go_at_call 55;refine u.out.mono ?_;rintro e w5⟨rfl,rfl⟩);rename_i K7 U;replace U:=Zp U;have g0:(W4.setCell ⟨E,0,none⟩ (.int .u32 ((f1|||f:Nat):Int))) ⟨E,0,none⟩=some (.int .u32 ((f1|||f:Nat):Int)):=by simp[go_sem,w]
  have g1:(W4.setCell ⟨E,0,none⟩ (.int .u32 ((f1|||f:Nat):Int))).frozen? ⟨E,0,none⟩=false:=by simpa using p1
  have g3:(W4.setCell ⟨E,0,none⟩ (.int .u32 ((f1|||f:Nat):Int))) ⟨C,0,none⟩=some (.int .u64 M):=by simp[go_sem,D,g]
  have g4:(W4.setCell ⟨E,0,none⟩ (.int .u32 ((f1|||f:Nat):Int))) ⟨C,1,none⟩=some (.int .u8 f):=by simp[go_sem,G,g]
  have g5:(W4.setCell ⟨E,0,none⟩ (.int .u32 ((f1|||f:Nat):Int))) ⟨C,2,none⟩=some (.bool j):=by simp[go_sem,H,g]
  have V:aj Z E wr (W4.setCell ⟨E,0,none⟩ (.int .u32 ((f1|||f:Nat):Int))):=I.out.set 0 _;clear w p1 p2 D G H I u;generalize W4.setCell ⟨E,0,none⟩ (.int .u32 ((f1|||f:Nat):Int))=W5 at g0 g1 g3 g4 g5 V⊢;subst hrb;have N:It E oB B (some ⟨ab,ao,none⟩) cap rs (aW x f0 (rs.take (k+1))) W5:=h.out.step V (by rw[d.out];exact g0) g1;have O:=hJ.out k wr W5 X.out V;have y:=hY.out k r W5 Y O N;rw[hxr]at y;simp only at y;obtain⟨yfn,ytmps,P,ybody,hy,hR⟩:=y;clear g0 g1 V N O d;refine(aek (n:=n)).1 ?_
  gi_wp2
  refine hR.mono ?_;rintro e W' (⟨rfl,hJ',z⟩|⟨rfl,Q,z⟩)
  .gi_wp2
   refine U.out _ _ ?_
   go_wp2
   go_roundw
   case rel=>exact⟨k+1,R,by go_num,Zp ⟨hJ',z⟩⟩
   simp[intOf];omega
  gi_wp2
  refine U.out _ _ ?_
  go_wp2
  refine aaT (results_none rfl _ _ _) rfl ?_;exact⟨⟨_,rfl⟩,.inr ⟨k,R,Q,z⟩⟩
 obtain rfl:k=(rs:Nat):=oM;rw[aaL]at h
 gi_wp2
 go_end0
 exact⟨⟨_,rfl⟩,.inl ⟨X,h⟩⟩
end
section
open Go.Shelf
variable{W:AK}{l:Nat}{o':Obj}{p:Es}{v:Aq}
structure gb(B E:Nat)(W W':AK):Prop where
 b:aj B E W W'
 c:∀(b:Nat)(c:Array Aq)(t:E1)(z:Nat×Nat),b≠E->W.heap[b]?=some (.cells c t z)->W'.heap[b]?=some (.cells c t z)
section
variable{B E:Nat}{W W':AK}
def aj.low{B':Nat}(h:aj B E W W')(a:B'<=B):aj B' E W W':=⟨h.os,h.tape,h.output,h.size,λk b=>h.block k oM⟩
def gb.of(h:aj W E W W')(a:B<=W):gb B E W W':=
 ⟨h.low a,λb c t z d a=>(h.block b (Zq.1 a).1 d).trans a⟩
def gb.put{o:Obj}(f:B<=l)(d:W.heap[l]?=o)(e:o.isCells=false):gb B E W (W.putObj l o'):=by
 refine⟨⟨rfl,rfl,rfl,by simp[World.putObj],λk g _=>World.putObj_heap_other oM⟩,λb c t z _ a=>?_⟩;rw[World.putObj_heap_other]
 .exact a
 rintro rfl;rw[d]at a;cases a;cases e
def wK(a:∀(b:Nat)(c:Array Aq)(t:E1)(z:Nat×Nat),b≠E->W.heap[b]?=some (.cells c t z)->W'.heap[b]?=some (.cells c t z))(d:p.block≠E)(h:W p=v):W' p=v:=by
 unfold World.cell? at h⊢;split at h
 .rename_i c t z e;rw[a _ _ _ _ d e];exact h
 cases h
def wz(d:∀(b:Nat)(c:Array Aq)(t:E1)(z:Nat×Nat),b≠E->W.heap[b]?=some (.cells c t z)->W'.heap[b]?=some (.cells c t z))(e:p.block≠E)(h:W p=v):W'.frozen? p=W.frozen? p:=by
 unfold World.cell? at h;unfold World.frozen?;split at h
 .rename_i c t z a;rw[d _ _ _ _ e a,a]
 cases h
def gb.cell(h:gb B E W W')(a:p.block≠E)(b:W p=v):W' p=v:=wK h.c a b
def gb.frozen(h:gb B E W W')(a:p.block≠E)(b:W p=v):W'.frozen? p=W.frozen? p:=wz h.c a b
end
def It.keep{E o q:Nat}{A:Option Es}{cap:Nat}{rs:List LR}{f:Nat}{e:AK}(h:It E o q A cap rs f W)(x:(W:Nat)<=e)(j:∀(b:Nat)(c:Array Aq)(t:E1)(z:Nat×Nat),W.heap[b]?=some (.cells c t z)->e.heap[b]?=some (.cells c t z)):It E o q A cap rs f e:=by
 have r:∀(b:Nat)(c:Array Aq)(t:E1)(z:Nat×Nat),b≠(e:Nat)+W+b+1->W.heap[b]?=some (.cells c t z)->e.heap[b]?=some (.cells c t z):=λb c t z _=>j b c t z;have d:∀{p:Es}{v:Aq},W p=v->e p=v:=λ{p v}hc=>wK (E:=p.block+1) (λb c t z _=>j b c t z) oM hc;have m:∀{p:Es}{v:Aq},W p=v->e.frozen? p=W.frozen? p:=λ{p v}hc=>wz (E:=p.block+1) (λb c t z _=>j b c t z) oM hc;refine⟨d h.ho,d h.he,d h.hc,(m h.hc).trans h.hz,λk cs n=>?_,h.neA,⟨h.neo.1,by have:=h.neo.2;omega⟩,⟨h.nee.1,by have:=h.nee.2;omega⟩,by have:=h.ltE;omega,h.ne0,λop g i=>⟨d (h.tab op g i).1,d (h.tab op g i).2⟩⟩;obtain⟨a,g,i,y,s⟩:=h.rows k cs n;exact⟨a,g,i,oM,λc u w=>d (s c u w)⟩
def gL{o:Obj}(d:W.heap[l]?=o)(e:o.isCells=false):∀(b:Nat)(c:Array Aq)(t:E1)(z:Nat×Nat),W.heap[b]?=some (.cells c t z)->(W.putObj l o').heap[b]?=some (.cells c t z):=λb c t z a=>by
 rw[World.putObj_heap_other]
 .exact a
 rintro rfl;rw[d]at a;cases a;cases e
def SD(B:Nat)(I:Nat->AK->Prop)(b:Code->Nat->AK->Prop)(K:AK->Prop)(k:Nat)(W:AK):Exit->Act->AK->Prop
 |.normal,_,a=>KeepsFrom B W a/\I k a/\K a
 |.ret,_,a=>KeepsFrom B W a/\b .ret k a/\K a
 |.exit id,_,a=>KeepsFrom B W a/\b (.exit id) k a/\K a
 |.goto t,_,a=>KeepsFrom B W a/\b (.goto t) k a/\K a
 |.panic _,_,_=>False
 |.outgrown,_,_=>False
def xy(y:Nat×Nat×Bool):Obj:=.cells #[iU y.1,qB y.2.1,.bool y.2.2] 56
def DJ{n:Nat}(hn:2<=n){g:Operand}{ps:Array Tmp}{assign body:Code}{Q:Exit->Act->AK->Prop}{a:Act}{w:AK}(E oB eB:Nat)(A:Option Es)(cap:Nat)(rs:List LR)(hl:rs.length<=1048576)(x:LR->Nat×Nat×Bool)(hx:∀r,(x r).2.1<256)(f0:Nat)(hf0:f0<1073741824)
 (hDo:∀r,r∈rs->∀W,aT W->Bf prog 29 #[REC r.o r.m r.a r.b r.c] W (ai (x r).1 (x r).2.1 (x r).2.2 W))
 (hg:a.eval g=.func (.func 57) #[] #[pT oB 0,pT eB 0])(hps:ps.size=2)(hI0:It E oB eB A cap rs f0 w)
 (I:Nat->AK->Prop)(Ix:Code->Nat->AK->Prop)(hI:∀k W W',w.heap.size<=W.heap.size->I k W->gb w.heap.size E W W'->I k W')(hIx:∀c k W W',w.heap.size<=W.heap.size->Ix c k W->gb w.heap.size E W W'->Ix c k W')(h0:I 0 w)(a₁:Nat->Nat×Nat×Bool->Nat->Act)
 (hassign:∀(l k:Nat)(y:Nat×Nat×Bool)(W:AK)(K:Act->AK->Prop),K (a₁ k y W.heap.size) (W.alloc (xy y))->
  assign.wpIn (Fence.wide.inRound l) (n-1-1) prog (Exit.then K (λ_ _ _=>False)) {tmps:=(ps.zip #[iI k,nE y.1 y.2.1 y.2.2]).foldl (λt(p,v)=>t.setIfInBounds p v) a.tmps,defers:=[]} W)
 (hbody:∀(l k:Nat)(r:LR)(xb:Nat)(W:AK),rs[k]?=some r->w.heap.size<=xb->xb<W.heap.size->W.heap[xb]?=some (xy (x r))->I k W->It E oB eB A cap rs (aW x f0 (rs.take (k+1))) W->
  body.wpIn (Fence.wide.inRound l) (n-1-1) prog (SD w.heap.size I Ix (It E oB eB A cap rs (aW x f0 (rs.take (k+1)))) (k+1) W) (a₁ k (x r) xb) W)
 (hdone:∀(D:Nat)(W:AK),w.heap.size<=D->I rs.length W->It E oB eB A cap rs (aW x f0 rs) W->W.heap[D]?=some (.deferred (some []))->Q .normal {a with defers:={target:=.collected D,args:=#[]}::a.defers} W)
 (hstop:∀(D:Nat)(c:Code)(k:Nat)(W:AK),w.heap.size<=D->k<rs.length->Ix c (k+1) W->It E oB eB A cap rs (aW x f0 (rs.take (k+1))) W->W.heap[D]?=some (.deferred (some []))->c.wpIn Fence.wide n prog Q {a with defers:={target:=.collected D,args:=#[]}::a.defers} W):
 (Code.rangeFunc g ps assign body).wpIn Fence.wide n prog Q a w:=by
 have hltE:=hI0.ltE;refine wpIn_rangeFunc ?_;intro fn hfn;obtain⟨rec,hrec⟩:∃rec:LoopState->Option Code->Loop,rec=λst pe=>{state:=st,pending:=pe,fn,tmps:=a.tmps,params:=ps,assign,body,defers:=w.heap.size}:=⟨_,rfl⟩;obtain⟨W1,hW1⟩:∃W1,(w.alloc (.deferred (some []))).alloc (.loop (rec .ready none))=W1:=⟨_,rfl⟩;have hL1:W1.heap[w.heap.size+1]?=some (.loop (rec .ready none)):=by
  rw[<-hW1];have:=World.alloc_heap_new (w.alloc (.deferred (some []))) (.loop (rec .ready none));rwa [World.size_alloc]at this
 have hK1:W1.heap[w.heap.size]?=some (.deferred (some [])):=by
  rw[<-hW1];exact(aap _ _ _ sM).trans (World.alloc_heap_new w _)
 have hB1:aj w.heap.size E w W1:=by
  rw[<-hW1];exact((aj.refl w).alloc (Zo _) _).alloc sM _
 have hI1:I 0 W1:=hI _ _ _ (Zo _) h0 (.of hB1 (Zo _));have hIt1:It E oB eB A cap rs f0 W1:=hI0.keep hB1.size λb c t z hb=>by
  rw[<-hW1];exact(aap _ _ _ (by have:=(Zq.1 hb).1;simp;omega)).trans ((aap _ _ _ (Zq.1 hb).1).trans hb)
 refine⟨w.heap.size+1,[{target:=.collected w.heap.size,args:=#[]}],W1,{target:=.fn (.func 57) #[pT oB 0,pT eB 0],args:=#[.func (.yield (w.heap.size+1)) #[] #[]]},W1,57,
  #[.func (.yield (w.heap.size+1)) #[] #[]]++#[pT oB 0,pT eB 0],W1,?_,?_,?_,?_,λ_=>oM,?_⟩
 .rw[<-hW1,hrec];exact run_enterLoop_outer _ _ _ _ _
 .simp only[resolve,hg];simp[go_sem]
 .intro f' hf';trivial
 .simp[invoke,go_sem,enters_of func57 (by kernel_rfl) rfl]
 refine(PK (n:=n-1) oM (w.heap.size+1) E oB eB A cap rs hl x hx f0 hf0 hDo
  (λk W=>w.heap.size<=W.heap.size/\I k W/\W.heap[w.heap.size+1]?=some (.loop (rec .ready none))/\W.heap[w.heap.size]?=some (.deferred (some [])))
  (λk W=>w.heap.size<=W.heap.size/\∃c,Ix c k W/\W.heap[w.heap.size+1]?=some (.loop (rec .done (some c)))/\W.heap[w.heap.size]?=some (.deferred (some [])))
  (λk W W' ⟨h1,h2,h3,h4⟩ hB=>⟨Zz h1 hB.size,hI _ _ _ h1 h2 (.of hB h1),(hB.block _ (Zq.1 h3).1 oM).trans h3,(hB.block _ (Zq.1 h4).1 oM).trans h4⟩)
  ?_ W1 ⟨hB1.size,hI1,hL1,hK1⟩ hIt1).mono ?_
 .
  rintro k r W hr⟨hs,hi,hl',hk⟩ hit;have hlt:w.heap.size+1<W.heap.size:=(Zq.1 hl').1;have hy:=run_yield (P:=prog) (args:=#[iI k,nE (x r).1 (x r).2.1 (x r).2.2]) hl' (by rw[hrec];exact hps.symm);rw[hrec]at hy;refine⟨fn,_,assign,body,hy,roundIn_of_wpIn hfn (hassign _ k (x r) W _ ?_)⟩;clear hy;have hBa:aj W.heap.size E W (W.alloc (xy (x r))):=(aj.refl W).alloc (Zo _) _;have hxb:(W.alloc (xy (x r))).heap[W.heap.size]?=some (xy (x r)):=World.alloc_heap_new W _;replace hl':=(hBa.block _ hlt oM).trans hl';replace hk:=(hBa.block _ oM oM).trans hk;replace hi:=hI _ _ _ hs hi (.of hBa hs);replace hit:It E oB eB A cap rs (aW x f0 (rs.take (k+1))) (W.alloc (xy (x r))):=hit.keep hBa.size λb c t z hb=>(aap _ _ _ (Zq.1 hb).1).trans hb;have hsa:w.heap.size<=(W.alloc (xy (x r))).heap.size:=Zz hs hBa.size;have hxs:W.heap.size<(W.alloc (xy (x r))).heap.size:=sM;generalize hWn:W.heap.size=xb at hxb hxs hs hlt⊢;clear hBa hWn;generalize W.alloc (xy (x r))=V at hxb hxs hl' hk hi hit hsa⊢;refine⟨_,run_beginRound hl' (by rw[hrec]),?_⟩;have hl2:(V.putObj (w.heap.size+1) (.loop {rec .ready none with state:=.busy})).heap[w.heap.size+1]?=some (.loop {rec .ready none with state:=.busy}):=World.putObj_heap_same (Zq.1 hl').1;have hk2:(V.putObj (w.heap.size+1) (.loop {rec .ready none with state:=.busy})).heap[w.heap.size]?=some (.deferred (some [])):=(World.putObj_heap_other oM).trans hk;have hst:gb w.heap.size E V (V.putObj (w.heap.size+1) (.loop {rec .ready none with state:=.busy})):=.put oM hl' rfl;refine wpIn_mono (hbody _ k r xb _ hr hs (ZB hxs hst.b.size) (gL hl' rfl _ _ _ _ hxb) (hI _ _ _ hsa hi hst) (hit.keep hst.b.size (gL hl' rfl))) ?_;have hs2:=Zz hsa hst.b.size;have fin:∀(jump:Option Code)(W3:AK),KeepsFrom w.heap.size (V.putObj (w.heap.size+1) (.loop {rec .ready none with state:=.busy})) W3->
   (Instr.endRound (w.heap.size+1) jump).run prog W3=.ok (.bool jump.isNone) (W3.putObj (w.heap.size+1) (.loop (rec (if jump.isNone then .ready else .done) jump)))/\
   W3.heap[w.heap.size+1]?=some (.loop {rec .ready none with state:=.busy})/\
   (W3.putObj (w.heap.size+1) (.loop (rec (if jump.isNone then .ready else .done) jump))).heap[w.heap.size+1]?=some (.loop (rec (if jump.isNone then .ready else .done) jump))/\
   (W3.putObj (w.heap.size+1) (.loop (rec (if jump.isNone then .ready else .done) jump))).heap[w.heap.size]?=some (.deferred (some []))/\w.heap.size<=W3.heap.size:=λjump W3 hk3=>by
   have hl3:=hk3.same _ _ oM hl2 rfl;have:=run_endRound (P:=prog) jump hl3;rw[hrec]at this⊢;exact⟨this,by rw[hrec]at hl3;exact hl3,World.putObj_heap_same (Zq.1 hl3).1,(World.putObj_heap_other oM).trans (hk3.same _ _ (Zo _) hk2 rfl),by have:=(Zq.1 hl3).1;omega⟩
  rintro e a3 W3 hp;cases e with
  |normal=>
   obtain⟨hk3,hi3,hit3⟩:=hp;obtain⟨hr3,hl3,hl4,hk4,hs3⟩:=fin none W3 hk3;have hst3:gb w.heap.size E W3 (W3.putObj (w.heap.size+1) (.loop (rec .ready none))):=.put oM hl3 rfl;exact⟨_,_,hr3,.inl ⟨rfl,⟨Zz hs3 hst3.b.size,hI _ _ _ hs3 hi3 hst3,hl4,hk4⟩,hit3.keep hst3.b.size (gL hl3 rfl)⟩⟩
  |ret=>
   obtain⟨hk3,hi3,hit3⟩:=hp;obtain⟨hr3,hl3,hl4,hk4,hs3⟩:=fin (some .ret) W3 hk3;have hst3:gb w.heap.size E W3 (W3.putObj (w.heap.size+1) (.loop (rec .done (some .ret)))):=.put oM hl3 rfl;exact⟨_,_,hr3,.inr ⟨rfl,⟨Zz hs3 hst3.b.size,.ret,hIx _ _ _ _ hs3 hi3 hst3,hl4,hk4⟩,hit3.keep hst3.b.size (gL hl3 rfl)⟩⟩
  |exit id=>
   obtain⟨hk3,hi3,hit3⟩:=hp;obtain⟨hr3,hl3,hl4,hk4,hs3⟩:=fin (some (.exit id)) W3 hk3;have hst3:gb w.heap.size E W3 (W3.putObj (w.heap.size+1) (.loop (rec .done (some (.exit id))))):=.put oM hl3 rfl;exact⟨_,_,hr3,.inr ⟨rfl,⟨Zz hs3 hst3.b.size,.exit id,hIx _ _ _ _ hs3 hi3 hst3,hl4,hk4⟩,hit3.keep hst3.b.size (gL hl3 rfl)⟩⟩
  |goto t=>
   obtain⟨hk3,hi3,hit3⟩:=hp;obtain⟨hr3,hl3,hl4,hk4,hs3⟩:=fin (some (.goto t)) W3 hk3;have hst3:gb w.heap.size E W3 (W3.putObj (w.heap.size+1) (.loop (rec .done (some (.goto t))))):=.put oM hl3 rfl;exact⟨_,_,hr3,.inr ⟨rfl,⟨Zz hs3 hst3.b.size,.goto t,hIx _ _ _ _ hs3 hi3 hst3,hl4,hk4⟩,hit3.keep hst3.b.size (gL hl3 rfl)⟩⟩
  |panic ch=>exact hp.elim
  |outgrown=>exact hp.elim
 
 rintro e W2⟨⟨v,rfl⟩,(⟨⟨hs,hi,hl',hk⟩,hit⟩|⟨k,hk',⟨hs,c,hi,hl',hk⟩,hit⟩)⟩
 .have hst:gb w.heap.size E W2 (W2.putObj (w.heap.size+1) (.loop (rec .exhausted none))):=.put oM hl' rfl;refine⟨none,_,by have:=run_endLoop (P:=prog) hl' (by rw[hrec];simp);rw[hrec]at this;exact this,hdone _ _ (Zo _) (hI _ _ _ hs hi (.put oM hl' rfl)) (hit.keep (by simp[World.putObj]) (gL hl' rfl)) ((World.putObj_heap_other oM).trans hk)⟩
 exact⟨some c,_,by have:=run_endLoop (P:=prog) hl' (by rw[hrec];simp);rw[hrec]at this;exact this,hstop _ c k _ (Zo _) hk' (hIx _ _ _ _ hs hi (.put oM hl' rfl)) (hit.keep (by simp[World.putObj]) (gL hl' rfl)) ((World.putObj_heap_other oM).trans hk)⟩
end
section
open Go.Shelf
variable{p:Es}
noncomputable def mj:Code:=f22.body.getD .skip
def xO:Code:=match mj with|.seq _ (.seq _ (.seq _ (.seq (.seq _ (.block _ (.loop c))) _)))=>c|_=>.skip
def nM:Code:=match xO with|.seq _ (.seq _ (.seq (.block _ c) _))=>c|_=>.skip
def gn:Code:=match nM with|.seq _ (.seq _ (.seq _ (.seq _ c)))=>c|_=>.skip
def Ef:Code:=match gn with|.seq c _=>c|_=>.skip
def UH:Code:=match gn with|.seq _ (.seq c _)=>c|_=>.skip
def C6:Code:=match Ef with|.seq _ (.block _ (.loop (.seq _ (.seq _ (.seq (.block _ c) _)))))=>c|_=>.skip
def UA:Code:=match C6 with|.seq _ (.seq _ (.seq _ (.seq _ (.seq (.seq _ c) _))))=>c|_=>.skip
def Re:Code:=match C6 with|.seq _ (.seq _ (.seq _ (.seq _ (.seq _ (.seq _ (.seq (.seq _ c) _))))))=>c|_=>.skip
def Qc:Code:=match UA with|.block _ c=>c|_=>.skip
def O5:Code:=match Re with|.block _ c=>c|_=>.skip
structure aQ(B:Nat)(X:Nat->Prop)(w v:AK):Prop where
 os:v.os=w.os
 tape:v.tape=w.tape
 output:v.output=w.output
 size:(w:Nat)<=v
 block:∀k,k<B->¬X k->v.heap[k]?=w.heap[k]?
section
variable{B:Nat}{X Y:Nat->Prop}{a b c:AK}
def aQ.refl(w:AK):aQ B X w w:=⟨rfl,rfl,rfl,Zo _,λ_ _ _=>rfl⟩
def aQ.trans(h:aQ B X a b)(k:aQ B X b c):aQ B X a c:=⟨k.os.trans h.os,k.tape.trans h.tape,k.output.trans h.output,Zz h.size k.size,λx d e=>(k.block x d e).trans (h.block x d e)⟩
def aQ.of(h:Np B a b):aQ B X a b:=⟨h.os,h.tape,h.output,h.size,λk d _=>h.block k d⟩
def aQ.ofX{E:Nat}(h:aj B E a b)(d:X E):aQ B X a b:=⟨h.os,h.tape,h.output,h.size,λk f g=>h.block k f λe=>g (e▸d)⟩
def aQ.mono{B':Nat}(h:aQ B X a b)(i:B'<=B)(d:∀k,k<B'->X k->Y k):aQ B' Y a b:=⟨h.os,h.tape,h.output,h.size,λk f g=>h.block k oM λe=>g (d k f e)⟩
def aQ.set(h:aQ B X a b){n:Nat}(d:X n\/B<=n)(o:Nat)(x:Aq):aQ B X a (b.setCell (aD n o) x):=by
 refine h.trans ⟨rfl,rfl,rfl,by simp[World.setCell],λk f e=>?_⟩;show(b.heap.modify n _)[k]?=_;rw[aaD,Zr];rintro rfl;rcases d with d|d
 .exact e d
 omega
def aQ.alloc(h:aQ B X a b)(d:B<=b)(o:Obj):aQ B X a (b.alloc o):=h.trans (.of ((Zx _ _).alloc d o))
def aQ.grown(h:aQ B X a b){d:Option Nat}(f:b.grownBy c d)(r:B<=b)(n:∀k,d=some k->B<=k\/X k):aQ B X a c:=by
 have g:aj B (d.getD b) b c:=(aj.of (.refl _ _)).trans ⟨f.os,f.tape,f.output,f.size,λk l o=>f.block k oM λe=>o (by rw[<-e];rfl)⟩;refine h.trans ⟨g.os,g.tape,g.output,g.size,λk l q=>?_⟩;refine g.block k l ?_;cases i:d with
 |none=>show k≠(b:Nat);omega
 |some j=>
  intro e;have e:k=j:=e;subst e;rcases n _ i with m|m
  .omega
  exact q m
def aQ.cell(h:aQ B X a b)(d:p.block<B)(e:¬X p.block):b p=a p:=ZW (w:=a) (h.block p.block d e)
def aQ.frozen(h:aQ B X a b)(d:p.block<B)(e:¬X p.block):b.frozen? p=a.frozen? p:=by unfold World.frozen?;rw[h.block p.block d e]
end
end
section
open Go.Shelf
variable{B E e n size:Nat}{W W' w:AK}{v:Aq}{xs:List Aq}
attribute[local go_sem] Oper.semAt_some
def fP{b o:Nat}(h:w (aD b o)=v):w.setCell (aD b o) v=w:=by
 unfold World.setCell;have d:w.heap.modify b (λk=>match k with
  |.cells c a frozen=>.cells (if(none:Option Nat).isSome then c else c.setIfInBounds o v) a frozen
  |o=>o)=w.heap:=by
  apply acD;intro i;rw[aaD];split
  .rename_i e;subst e;unfold World.cell? at h;split at h
   .rename_i c t z l;have f:w.heap[b]?=some (.cells c t z):=l;(have g:c[o]?=v:=by simpa using h);have m:c.setIfInBounds o v=c:=by
     apply acD;intro j;rw[ab8];split
     .rename_i e;subst e;have:=(Zq.1 g).1;rw[ZC this,g]
     rfl
    rw[f];simp[m]
   cases h
  rfl
 exact aal (λp=>{w with heap:=p}) d
structure Fst(E RB:Nat)(x:LR->Nat×Nat×Bool)(xs:List LR)(w W:AK):Prop where
 b:aQ w (λk=>k=E\/k=RB) w W
 r:∃s,W (aD RB 0)=some s/\W.ownsRow w 56 3 s xs (xs.flatMap λr=>rsC (x r))
 z:W.frozen? (aD RB 0)=false
def I0{w':AK}(h:w.ownsRow B e size v n xs)(j:E<B)(b:gb B E w w'):w'.ownsRow B e size v n xs:=by
 refine⟨h.1,?_⟩;rcases h.2 with h|⟨g,cap,a,rfl,d,f,i⟩
 .exact .inl h
 exact .inr ⟨g,cap,a,rfl,d,b.c g _ _ _ oM f,i⟩
def Fst.std{RB:Nat}{x:LR->Nat×Nat×Bool}{xs:List LR}(h:Fst E RB x xs w W)(f:E<w)(c:RB≠E)(a:gb w E W W'):Fst E RB x xs w W':=by
 obtain⟨s,d,g⟩:=h.r;exact⟨h.b.trans (.ofX a.b (.inl rfl)),⟨s,a.cell c d,I0 g f a⟩,(a.frozen c d).trans h.z⟩
def It.low{g i:Nat}{A:Option Es}{cap:Nat}{rs:List LR}{f R:Nat}(h:It E g i A cap rs f W)(o:g<R)(q:i<R)(m:E<R)(r:∀a,A=some a->a.block<R)(b:Np R W W'):It E g i A cap rs f W':=by
 have x:=b.size;refine⟨(b.cell (p:=aD g 0) o).trans h.ho,(b.cell (p:=aD i 0) q).trans h.he,(b.cell (p:=aD E 0) m).trans h.hc,(b.frozen (p:=aD E 0) m).trans h.hz,λk cs l=>?_,h.neA,⟨h.neo.1,by have:=h.neo.2;omega⟩,⟨h.nee.1,by have:=h.nee.2;omega⟩,by have:=h.ltE;omega,h.ne0,λop d j=>⟨(b.cell (p:=aD 0 _) sO).trans (h.tab op d j).1,(b.cell (p:=aD 0 _) sO).trans (h.tab op d j).2⟩⟩;obtain⟨a,d,j,y,s⟩:=h.rows k cs l;exact⟨a,d,j,oM,λc u t=>(b.cell (p:=aD a.block (a.off+k*5+c)) (r a d)).trans (s c u t)⟩
def wN{v:AK}(h:Np B w v)(a:B<=n)(o:Nat)(x:Aq):Np B w (v.setCell (aD n o) x):=by
 have:=((aQ.of (X:=λ_=>False) h).set (n:=n) (.inr a) o x);exact⟨this.os,this.tape,this.output,this.size,λk b=>this.block k b id⟩
def Gw{f:AK}{o:Obj}(a:W.ownsRow B e size v n xs)(b:(W.alloc o).grownBy f v.ownBlock):KeepsFrom B W f:=by
 refine⟨by have:=b.size;simp at this;omega,λk l _ c i=>?_⟩;have d:=(Zq.1 c).1;refine(b.block k sO λe=>?_).trans ((aap _ _ _ d).trans c);rcases a.2 with⟨rfl,_⟩|⟨g,cap,j,rfl,m,h,_⟩
 .cases e
 simp only[Value.ownBlock,Zt]at e;subst e;rw[c]at h;cases h;cases i
def vZ(h:KeepsFrom B W W')(b:n<B)(o:Nat)(v:Aq):KeepsFrom B W (W'.setCell (aD n o) v):=
 h.trans ⟨by simp[World.setCell],λk c d a _=>by
  show(W'.heap.modify n _)[k]?=_;rw[aaD,Zr oM];exact a⟩
def fL{k o:Nat}(h:k≠n):(W.setCell (aD n o) v).heap[k]?=W.heap[k]?:=by
 show(W.heap.modify n _)[k]?=_;rw[aaD,Zr (abj h)]
def ML:(prog.info? 56).map (λi=>(i.zero,i.size,i.bytes))=some (some (.agg #[iU 0,qB 0,.bool false]),3,16):=by kernel_rfl
def MZ{x0 x1 x2 x3 x4 x5 x8 x9 aa ab ac ad ae af ag ah aj al am an ao ap aq ar cL au av aw ax ay az aA aB aE aF aG aH aI aJ aK aL aM aN aO aP aR aS aU aV aX aY aZ a0 a1 a2 a3 a4 a5 a6 a7 a8 a9 bb bc bd be bf bg bh bi bj bk bm bo bp bq br bs bt bu bv bw bx bz bA bB bC bD bE bF bG bH bI bJ bK bL bM bN bO bP bQ bS bT bU bV bW bX bY bZ b0 b1 b2 b3 b4 b5 b6 b7 b8 b9 ca cc cd ce cf cg ch ci cj ck cl cm cn co cp cq cr ct cu cv cw cx cy cz cA cC cD cE cG cH cI:Aq}{ds:List Deferred}{Q:Exit->Act->AK->Prop}(E M N S q RB:Nat)(A:Option Es)(cap:Nat)(rs:List LR)(hl:(rs:Nat)<=1048576)(x:LR->Nat×Nat×Bool)(hx:∀r,(x r).2.1<256)(f0:Nat)(hf0:f0<1073741824)
 (hDo:∀r,r∈rs->∀W,aT W->Bf prog 29 #[REC r.o r.m r.a r.b r.c] W (ai (x r).1 (x r).2.1 (x r).2.2 W))(hI0:It E M N A cap rs f0 w)
 (stop:Int)(hS:w (aD S 1)=iI stop)(hS1:S<w)(hS2:S≠E)(hS3:S≠RB)
 (hT:w (aD q 1)=some (.bool true))(hTz:w.frozen? (aD q 1)=false)(hT1:q<w)(hT2:q≠E)(hT3:q≠RB)
 (hR:w (aD RB 0)=some (.slice none 0 0))(hRz:w.frozen? (aD RB 0)=false)(U:RB<w)(hRE:E<RB)(hRo:M<RB)(hRe:N<RB)(hRA:∀a,A=some a->a.block<RB)
 (hQ:∀D W,(w:Nat)<=D->W.heap[D]?=some (.deferred (some []))->Fst E RB x (rs.take (cJ rs stop)) w W->It E M N A cap rs (aW x f0 (rs.take (cJ rs stop))) W->Q .normal ⟨(x0::x1::x2::x3::x4::x5::pT S 0::pT q 0::x8::x9::aa::ab::pT RB 0::ac::ad::ae::af::ag::ah::aj::al::am::an::ao::ap::aq::ar::cL::au::av::aw::ax::ay::az::aA::aB::aE::aF::aG::aH::aI::aJ::aK::aL::aM::aN::.func (.func 57) #[] #[pT M 0,pT N 0]::aO::aP::aR::aS::aU::aV::aX::aY::aZ::a0::a1::a2::a3::a4::a5::a6::a7::a8::a9::bb::bc::bd::be::bf::bg::bh::bi::bj::bk::bm::bo::bp::bq::br::bs::bt::bu::bv::bw::bx::bz::bA::bB::bC::bD::bE::bF::bG::bH::bI::bJ::bK::bL::bM::bN::bO::bP::bQ::bS::bT::bU::bV::bW::bX::bY::bZ::b0::b1::b2::b3::b4::b5::b6::b7::b8::b9::ca::cc::cd::ce::cf::cg::ch::ci::cj::ck::cl::cm::cn::co::cp::cq::cr::ct::cu::cv::cw::cx::cy::cz::cA::cC::cD::cE::cG::cH::cI::[]).toArray,{target:=.collected D,args:=#[]}::ds⟩ W):
 Qc.wpIn Fence.wide 2 prog (Exit.inBlock 4 Q) ⟨(x0::x1::x2::x3::x4::x5::pT S 0::pT q 0::x8::x9::aa::ab::pT RB 0::ac::ad::ae::af::ag::ah::aj::al::am::an::ao::ap::aq::ar::cL::au::av::aw::ax::ay::az::aA::aB::aE::aF::aG::aH::aI::aJ::aK::aL::aM::aN::.func (.func 57) #[] #[pT M 0,pT N 0]::aO::aP::aR::aS::aU::aV::aX::aY::aZ::a0::a1::a2::a3::a4::a5::a6::a7::a8::a9::bb::bc::bd::be::bf::bg::bh::bi::bj::bk::bm::bo::bp::bq::br::bs::bt::bu::bv::bw::bx::bz::bA::bB::bC::bD::bE::bF::bG::bH::bI::bJ::bK::bL::bM::bN::bO::bP::bQ::bS::bT::bU::bV::bW::bX::bY::bZ::b0::b1::b2::b3::b4::b5::b6::b7::b8::b9::ca::cc::cd::ce::cf::cg::ch::ci::cj::ck::cl::cm::cn::co::cp::cq::cr::ct::cu::cv::cw::cx::cy::cz::cA::cC::cD::cE::cG::cH::cI::[]).toArray,ds⟩ w:=by
 have O:=hI0.ltE;have hR2:RB≠E:=oM;obtain⟨i0,hi,hz0,hz1,hz2⟩:=abq ML;replace hQ:=Zp hQ;conv=>arg 4;whnf
 refine DJ (Zo 2) E M N A cap rs hl x hx f0 hf0 hDo (by simp[go_sem]) rfl hI0
  (λk W=>k<=(rs:Nat)/\(∀j:Nat,1<=j->j<=k->(j:Int)≠stop)/\Fst E RB x (rs.take k) w W)
  (λc k W=>c=.exit 4/\(k:Int)=stop/\Fst E RB x (rs.take k) w W)
  (λk W W' _ ⟨h1,H,V⟩ X=>⟨h1,H,V.std O hR2 X⟩) (λc k W W' _ ⟨h1,H,V⟩ X=>⟨h1,H,V.std O hR2 X⟩)
  ⟨Z7 _,λj h1 H=>oM,.refl _,⟨_,hR,⟨rfl,.inl ⟨rfl,rfl⟩⟩⟩,hRz⟩
  (λk y xb=>⟨(x0::x1::x2::x3::x4::x5::pT S 0::pT q 0::x8::x9::aa::ab::pT RB 0::iI k::pT xb 0::ae::af::ag::ah::aj::al::am::an::ao::ap::aq::ar::cL::au::av::aw::ax::ay::az::aA::aB::aE::aF::aG::aH::aI::aJ::aK::aL::aM::aN::.func (.func 57) #[] #[pT M 0,pT N 0]::iI k::nE y.1 y.2.1 y.2.2::aR::aS::aU::aV::aX::aY::aZ::a0::a1::a2::a3::a4::a5::a6::a7::a8::a9::bb::bc::bd::be::bf::bg::bh::bi::bj::bk::bm::bo::bp::bq::br::bs::bt::bu::bv::bw::bx::bz::bA::bB::bC::bD::bE::bF::bG::bH::bI::bJ::bK::bL::bM::bN::bO::bP::bQ::bS::bT::bU::bV::bW::bX::bY::bZ::b0::b1::b2::b3::b4::b5::b6::b7::b8::b9::ca::cc::cd::ce::cf::cg::ch::ci::cj::ck::cl::cm::cn::co::cp::cq::cr::ct::cu::cv::cw::cx::cy::cz::cA::cC::cD::cE::cG::cH::cI::[]).toArray,[]⟩) ?_ ?_ ?_ ?_
 .intro l k y W K hK
  gi_wp2
  exact hK
 .intro l k r xb W hrk hxb1 hxb2 t hI f;obtain⟨hk,Y,I⟩:=hI;have hlt:k<(rs:Nat):=(ZL.1 hrk).1;have hsW:=I.b.size;have hSW:W (aD S 1)=iI stop:=(I.b.cell (p:=aD S 1) hS1 (λe=>e.elim hS2 hS3)).trans hS;have hTW:W (aD q 1)=some (.bool true):=(I.b.cell (p:=aD q 1) hT1 (λe=>e.elim hT2 hT3)).trans hT;have hTzW:W.frozen? (aD q 1)=false:=(I.b.frozen (p:=aD q 1) hT1 (λe=>e.elim hT2 hT3)).trans hTz;have Z:=fP hTW;obtain⟨s,hRW,d⟩:=I.r;have P:=I.z;have hlen:((rs.take k):Nat)=k:=by rw[aaY];omega
  rw[hlen]at d;obtain⟨sA,sc,rfl⟩:=ba d;have c0:W (aD xb 0)=some (iU (x r).1):=by unfold World.cell?;rw[t];rfl
  have c1:W (aD xb 1)=some (qB (x r).2.1):=by unfold World.cell?;rw[t];rfl
  have c2:W (aD xb 2)=some (.bool (x r).2.2):=by unfold World.cell?;rw[t];rfl
  replace I:=Zp I;replace f:=Zp f;replace Y:=Zp Y
  gi_wp2_with(gi_at_builtin;refine wpListIn_append_own _ rfl (.tmp 58) (.tmp 60) 53 rfl w 56 i0 _ 3 16 underlying53 hi hz0 hz1 hz2 rfl dC _ k _ rfl (d.alloc _) (aD W 0) 1 1 (rsC (x r)) rfl rfl ?c1 ?c2 ?c3 ?c4 ?c5 ?_)
  case c1=>exact hZ (rsC (x r))
  case c2=>intro u R;simp[rsC]at R;rcases R with rfl|rfl|rfl<;>rfl
  case c3=>simp only[maxLen];omega
  case c4=>omega
  case c5=>simp;omega
  intro v1 T h cM _;have C:Np w W T:=((Zx _ _).alloc hsW _).grown cM sO λj hj=>(ak d hj).1;obtain⟨vA,vc,rfl⟩:=ba h;have hR1W:T (aD RB 0)=some (.slice sA k sc):=(C.cell (p:=aD RB 0) U).trans hRW;have hRz1:T.frozen? (aD RB 0)=false:=(C.frozen (p:=aD RB 0) U).trans P;have hS1W:T (aD S 1)=iI stop:=(C.cell (p:=aD S 1) hS1).trans hSW;have F:KeepsFrom w W T:=Gw d cM;clear cM hRW P hSW hTW hTzW Z c0 c1 c2;have J:Fst E RB x (rs.take (k+1)) w (T.setCell (aD RB 0) (.slice vA (k+1) vc)):=by
   (have cR:((rs.take (k+1)):Nat)=k+1:=by rw[aaY];omega);refine⟨(I.out.b.trans (.of C)).set (.inl (.inr rfl)) 0 _,⟨.slice vA (k+1) vc,by simp[go_sem,hR1W],?_⟩,by simpa using hRz1⟩;rw[cR,fU _ hrk];exact bn h λg hg=>fL (by have:=(ak h hg).1;omega)
  have i:It E M N A cap rs (aW x f0 (rs.take (k+1))) (T.setCell (aD RB 0) (.slice vA (k+1) vc)):=f.out.low hRo hRe hRE hRA (wN (B:=RB) (C.mono oM) (Zo _) 0 _);have L:KeepsFrom w W (T.setCell (aD RB 0) (.slice vA (k+1) vc)):=vZ F U 0 _;replace J:=Zp J;replace i:=Zp i;replace L:=Zp L;clear F
  gi_wp2_with fail
  .rename_i X;exact⟨L.out,⟨rfl,by simp at X⊢;omega,J.out⟩,i.out⟩
  rename_i X;exact⟨L.out,⟨oM,λj h1 H=>by
   by_cases hj:j<=k
   .exact Y.out j h1 hj
   obtain rfl:j=k+1:=oM;simp at X⊢;omega,J.out⟩,i.out⟩
 .intro D W hD hI f G;obtain⟨_,H,V⟩:=hI;have R:=sE H;exact hQ.out D W hD G (by rw[R];exact V) (by rw[R,aaL];exact f)
 intro D c k W hD hk hI f G;obtain⟨rfl,H,V⟩:=hI;have R:=oy H hk
 gi_wp2
 exact hQ.out D W hD G (by rw[R];exact V) (by rw[R];exact f)
end
section
open Go.Shelf
variable{w:AK}
attribute[local go_sem] Oper.semAt_some
structure Snd(E Nb:Nat)(k:Nat)(w W:AK):Prop where
 b:aQ w (λk=>k=E\/k=Nb) w W
 n:W (aD Nb 0)=iI k
 z:W.frozen? (aD Nb 0)=false
def Snd.std{E a k:Nat}{W d:AK}(h:Snd E a k w W)(e:a≠E)(c:gb w E W d):Snd E a k w d:=
 ⟨h.b.trans (.ofX c.b (.inl rfl)),c.cell e h.n,(c.frozen e h.n).trans h.z⟩
def H9{x0 x1 x2 x3 x4 x5 x8 x9 aa ac ad ae af ag ah aj ak al am an ap aq ar cH au av aw ax ay az aA aB aE aF aG aH aI aJ aK aL aM aN aO aP aR aS aU aV aX aY aZ a0 a1 a2 a3 a4 a5 a6 a7 a8 a9 ba bb bc bd be bf bg bh bi bj bk bm bn bo bp bq br bs bt bu bv bw bx bz bA bB bC bD bF bG bH bI bJ bK bL bM bN bO bP bQ bS bT bU bV bW bX bY bZ b0 b1 b2 b3 b4 b5 b6 b7 b8 b9 ca cc cd ce cf cg ch ci cj ck cl cm cn co cp cq cr cs ct cu cv cw cx cy cz cA cC cD cE cG:Aq}{ds:List Deferred}{Q:Exit->Act->AK->Prop}(E T U S i RB d RC:Nat)(A:Option Es)(cap:Nat)(rs:List LR)(hl:(rs:Nat)<=1048576)(x:LR->Nat×Nat×Bool)(hx:∀r,(x r).2.1<256)(f0:Nat)(hf0:f0<1073741824)
 (hDo:∀r,r∈rs->∀W,aT W->Bf prog 29 #[REC r.o r.m r.a r.b r.c] W (ai (x r).1 (x r).2.1 (x r).2.2 W))(hI0:It E T U A cap rs f0 w)
 (stop:Int)(hS:w (aD S 1)=iI stop)(hS1:S<w)(hS2:S≠E)(hS3:S≠d)
 (hT:w (aD i 1)=some (.bool true))(hTz:w.frozen? (aD i 1)=false)(hT1:i<w)(hT2:i≠E)(hT3:i≠d)
 (hRS:∃s,w (aD RB 0)=some (.slice s (cJ rs stop) RC)/\bE w s 3 ((rs.take (cJ rs stop)).map λr=>rsC (x r))/\∀a,s=some a->a.block≠E/\a.block≠d)(hR1:RB<w)(hRE:RB≠E)(hRN:RB≠d)
 (hN:w (aD d 0)=iI 0)(hNz:w.frozen? (aD d 0)=false)(hN1:d<w)(hNE:E<d)(hNo:T<d)(hNe:U<d)(hNA:∀a,A=some a->a.block<d)
 (hQ:∀D W,(w:Nat)<=D->W.heap[D]?=some (.deferred (some []))->Snd E d (cJ rs stop) w W->It E T U A cap rs (aW x f0 (rs.take (cJ rs stop))) W->Q .normal ⟨(x0::x1::x2::x3::x4::x5::pT S 0::pT i 0::x8::x9::aa::ac::pT RB 0::ad::ae::pT d 0::af::ag::ah::aj::ak::al::am::an::ap::aq::ar::cH::au::av::aw::ax::ay::az::aA::aB::aE::aF::aG::aH::aI::aJ::aK::aL::aM::aN::aO::aP::aR::aS::aU::aV::aX::aY::aZ::a0::a1::a2::a3::a4::a5::a6::a7::a8::a9::ba::bb::.func (.func 57) #[] #[pT T 0,pT U 0]::bc::bd::be::bf::bg::bh::bi::bj::bk::bm::bn::bo::bp::bq::br::bs::bt::bu::bv::bw::bx::bz::bA::bB::bC::bD::bF::bG::bH::bI::bJ::bK::bL::bM::bN::bO::bP::bQ::bS::bT::bU::bV::bW::bX::bY::bZ::b0::b1::b2::b3::b4::b5::b6::b7::b8::b9::ca::cc::cd::ce::cf::cg::ch::ci::cj::ck::cl::cm::cn::co::cp::cq::cr::cs::ct::cu::cv::cw::cx::cy::cz::cA::cC::cD::cE::cG::[]).toArray,{target:=.collected D,args:=#[]}::ds⟩ W):
 O5.wpIn Fence.wide 2 prog (Exit.inBlock 6 Q) ⟨(x0::x1::x2::x3::x4::x5::pT S 0::pT i 0::x8::x9::aa::ac::pT RB 0::ad::ae::pT d 0::af::ag::ah::aj::ak::al::am::an::ap::aq::ar::cH::au::av::aw::ax::ay::az::aA::aB::aE::aF::aG::aH::aI::aJ::aK::aL::aM::aN::aO::aP::aR::aS::aU::aV::aX::aY::aZ::a0::a1::a2::a3::a4::a5::a6::a7::a8::a9::ba::bb::.func (.func 57) #[] #[pT T 0,pT U 0]::bc::bd::be::bf::bg::bh::bi::bj::bk::bm::bn::bo::bp::bq::br::bs::bt::bu::bv::bw::bx::bz::bA::bB::bC::bD::bF::bG::bH::bI::bJ::bK::bL::bM::bN::bO::bP::bQ::bS::bT::bU::bV::bW::bX::bY::bZ::b0::b1::b2::b3::b4::b5::b6::b7::b8::b9::ca::cc::cd::ce::cf::cg::ch::ci::cj::ck::cl::cm::cn::co::cp::cq::cr::cs::ct::cu::cv::cw::cx::cy::cz::cA::cC::cD::cE::cG::[]).toArray,ds⟩ w:=by
 have hltE:=hI0.ltE;have hR2:d≠E:=oM;replace hQ:=Zp hQ;conv=>arg 4;whnf
 refine DJ (Zo 2) E T U A cap rs hl x hx f0 hf0 hDo (by simp[go_sem]) rfl hI0
  (λk W=>k<=(rs:Nat)/\(∀j:Nat,1<=j->j<=k->(j:Int)≠stop)/\Snd E d k w W)
  (λc k W=>c=.exit 6/\(k:Int)=stop/\Snd E d k w W)
  (λk W W' _ ⟨h1,L,X⟩ Y=>⟨h1,L,X.std hR2 Y⟩) (λc k W W' _ ⟨h1,L,X⟩ Y=>⟨h1,L,X.std hR2 Y⟩)
  ⟨Z7 _,λj h1 L=>oM,.refl _,hN,hNz⟩
  (λk y xb=>⟨(x0::x1::x2::x3::x4::x5::pT S 0::pT i 0::x8::x9::aa::ac::pT RB 0::ad::ae::pT d 0::iI k::pT xb 0::ah::aj::ak::al::am::an::ap::aq::ar::cH::au::av::aw::ax::ay::az::aA::aB::aE::aF::aG::aH::aI::aJ::aK::aL::aM::aN::aO::aP::aR::aS::aU::aV::aX::aY::aZ::a0::a1::a2::a3::a4::a5::a6::a7::a8::a9::ba::bb::.func (.func 57) #[] #[pT T 0,pT U 0]::iI k::nE y.1 y.2.1 y.2.2::be::bf::bg::bh::bi::bj::bk::bm::bn::bo::bp::bq::br::bs::bt::bu::bv::bw::bx::bz::bA::bB::bC::bD::bF::bG::bH::bI::bJ::bK::bL::bM::bN::bO::bP::bQ::bS::bT::bU::bV::bW::bX::bY::bZ::b0::b1::b2::b3::b4::b5::b6::b7::b8::b9::ca::cc::cd::ce::cf::cg::ch::ci::cj::ck::cl::cm::cn::co::cp::cq::cr::cs::ct::cu::cv::cw::cx::cy::cz::cA::cC::cD::cE::cG::[]).toArray,[]⟩) ?_ ?_ ?_ ?_
 .intro l k y W K hK
  gi_wp2
  exact hK
 .intro l k r xb W hrk hxb1 hxb2 f hI g;obtain⟨hk,M,v⟩:=hI;have hlt:k<(rs:Nat):=(ZL.1 hrk).1;have hsW:=v.b.size;have Z:W (aD S 1)=iI stop:=(v.b.cell (p:=aD S 1) hS1 (λe=>e.elim hS2 hS3)).trans hS;have C:W (aD i 1)=some (.bool true):=(v.b.cell (p:=aD i 1) hT1 (λe=>e.elim hT2 hT3)).trans hT;have F:W.frozen? (aD i 1)=false:=(v.b.frozen (p:=aD i 1) hT1 (λe=>e.elim hT2 hT3)).trans hTz;have G:=fP C;have N:=v.n;have q:=v.z;have hkK:k<cJ rs stop:=by
   unfold cJ;split
   .rename_i h;by_cases hle:k<stop.toNat
    .exact hle
    exact absurd oM (M stop.toNat oM oM)
   exact hlt
  obtain⟨s,hRw,H,cM⟩:=hRS;have hRW:W (aD RB 0)=some (.slice s (cJ rs stop) RC):=(v.b.cell (p:=aD RB 0) hR1 λe=>e.elim hRE hRN).trans hRw;obtain⟨⟨ab,ao,asp⟩,rfl,hsp,V,hc⟩:=H k (rsC (x r)) (by rw[aaf,aau,ZC hkK,hrk];rfl);simp only at hsp V hc;subst hsp;have O:∀c u,(rsC (x r))[c]?=some u->W (aD ab (ao+k*3+c))=some u:=λc u hu=>(v.b.cell (p:=aD ab (ao+k*3+c)) V λe=>e.elim (cM _ rfl).1 (cM _ rfl).2).trans (hc c u hu);have d0:W (aD ab (ao+k*3))=some (iU (x r).1):=O 0 _ rfl;have d1:W (aD ab (ao+k*3+1))=some (qB (x r).2.1):=O 1 _ rfl;have d2:W (aD ab (ao+k*3+2))=some (.bool (x r).2.2):=O 2 _ rfl;have ead:(aD ab ao:Es).add (k*3)=aD ab (ao+k*3):=by simp[Addr.add]
  have c0:W (aD xb 0)=some (iU (x r).1):=by unfold World.cell?;rw[f];rfl
  have c1:W (aD xb 1)=some (qB (x r).2.1):=by unfold World.cell?;rw[f];rfl
  have c2:W (aD xb 2)=some (.bool (x r).2.2):=by unfold World.cell?;rw[f];rfl
  have hkp:(k:Int)<cJ rs stop:=oM;have hkp2:decide ((k:Int)<cJ rs stop):=by simpa using hkp
  replace v:=Zp v;replace g:=Zp g;replace M:=Zp M;replace f:=Zp f;clear H cM O hc
  gi_wp2_with fail
  refine kt 21 (by kernel_rfl) (by kernel_rfl) ?_;simp only[abA,ace,abB,acf];repeat still_step
  try refine wpStill_nil ?_
  replace C:W.drew (aD i 1)=some (.bool true):=C;replace F:W.drew.frozen? (aD i 1)=false:=F;replace Z:W.drew (aD S 1)=iI stop:=Z;replace N:W.drew (aD d 0)=iI k:=N;replace q:W.drew.frozen? (aD d 0)=false:=q;have I:Np W W W.drew:=(Zx _ _).drew;clear G hRW c0 c1 c2 d0 d1 d2;change wpListIn _ _ _ _ _ _ _ W.drew;generalize W.drew=W2 at C F Z N q I⊢;have G:=fP C;have P:Snd E d (k+1) w (W2.setCell (aD d 0) (iI ((k:Int)+1))):=
   ⟨(v.out.b.trans (.of (I.mono hsW))).set (.inl (.inr rfl)) 0 _,by simp[go_sem,N],by simpa using q⟩
  have t:It E T U A cap rs (aW x f0 (rs.take (k+1))) (W2.setCell (aD d 0) (iI ((k:Int)+1))):=g.out.low hNo hNe hNE hNA (wN (B:=d) (I.mono oM) (Zo _) 0 _);have R:KeepsFrom w W (W2.setCell (aD d 0) (iI ((k:Int)+1))):=vZ ⟨I.size,λj o _ hj _=>(I.block j (Zq.1 hj).1).trans hj⟩ hN1 0 _;replace P:=Zp P;replace t:=Zp t;replace R:=Zp R;clear hkp hkp2
  gi_wp2_with fail
  .rename_i Y;exact⟨R.out,⟨rfl,by simp at Y⊢;omega,P.out⟩,t.out⟩
  rename_i Y;exact⟨R.out,⟨oM,λj h1 L=>by
   by_cases hj:j<=k
   .exact M.out j h1 hj
   obtain rfl:j=k+1:=oM;simp at Y⊢;omega,P.out⟩,t.out⟩
 .intro D W hD hI g J;obtain⟨_,L,X⟩:=hI;have hu:=sE L;exact hQ.out D W hD J (by rw[hu];exact X) (by rw[hu,aaL];exact g)
 intro D c k W hD hk hI g J;obtain⟨rfl,L,X⟩:=hI;have hu:=oy L hk
 gi_wp2
 exact hQ.out D W hD J (by rw[hu];exact X) (by rw[hu];exact g)
end
section
open Go.Shelf
variable{B b k n:Nat}{s u:Aq}{v w:AK}{xs:List Aq}{xss:List (List (Nat×Nat×Bool))}
attribute[local go_sem] Oper.semAt_some
def wZ(f:FuncId):Fence.wide.fn f=True:=rfl
attribute[local go_sem] wZ
def oO(w:AK)(B:Nat)(s:Aq)(n:Nat)(xs:List Aq):Prop:=
 xs=n*3/\((s=.slice none 0 0/\n=0)\/∃g cap a,s=qL g 0 n cap/\B<=g/\w.heap[g]?=some (.cells a 56 (0,0))/\a.toList.take (n*3)=xs)
def LO(h:w.ownsRow B 56 3 s n xs):oO w B s n xs:=
 ⟨h.1,h.2.imp id λ⟨g,cap,cur,h1,h2,h3,_,_,_,h7⟩=>⟨g,cap,cur,h1,h2,h3,h7⟩⟩
def jd(h:oO w B s n xs){g:Nat}(a:s.ownBlock=g):B<=g/\g<w/\∃c z,w.heap[g]?=some (.cells c 56 z):=by
 rcases h.2 with⟨rfl,_⟩|⟨g',cap,e,rfl,f,d,_⟩
 .cases a
 simp only[Value.ownBlock,Zt]at a;subst a;exact⟨f,(Zq.1 d).1,_,_,d⟩
def mI(h:oO w B s n xs)(a:∀g,s.ownBlock=some g->v.heap[g]?=w.heap[g]?):oO v B s n xs:=
 ⟨h.1,h.2.imp id λ⟨g,cap,cur,h1,h2,h3,h4⟩=>⟨g,cap,cur,h1,h2,(a g (by rw[h1];rfl)).trans h3,h4⟩⟩
def FG{B':Nat}(h:oO w B s n xs)(a:B'<=B):oO w B' s n xs:=
 ⟨h.1,h.2.imp id λ⟨g,cap,cur,h1,h2,h3⟩=>⟨g,cap,cur,h1,Zz a h2,h3⟩⟩
def cY(w:AK)(B:Nat)(u:Aq)(xss:List (List (Nat×Nat×Bool))):Prop:=
 ∃a,w.ownsRow B 53 1 u xss a/\∀(i:Nat)(xs:List (Nat×Nat×Bool)),xss[i]?=xs->∃s,a[i]?=some s/\oO w B s xs (xs.flatMap rsC)/\∀g,s.ownBlock=some g->u.ownBlock≠some g
def cY.more{h:Aq}{xs:List (Nat×Nat×Bool)}{l:List Aq}{t:E1}
 (D:w.ownsRow B 53 1 u xss l)(E:∀(i:Nat)(xs:List (Nat×Nat×Bool)),xss[i]?=xs->∃s,l[i]?=some s/\oO w B s xs (xs.flatMap rsC)/\∀g,s.ownBlock=some g->u.ownBlock≠some g)
 (F:w.ownsRow B 56 3 s xs (xs.flatMap rsC))(q:∀g,s.ownBlock=some g->u.ownBlock≠some g)
 (m:v.ownsRow B 53 1 h (xss+1) (l++[s]))(G:(w.alloc (.cells #[s] t)).grownBy v u.ownBlock)(a:h.ownBlock=u.ownBlock\/h.ownBlock=w.alloc (.cells #[s] t)):cY v B h (xss++[xs]):=by
 have o:(l:Nat)=xss:=by have:=D.1;omega
 have d:∀{x:Aq}{n:Nat}{xs:List Aq},oO w B x n xs->(∀g,x.ownBlock=some g->u.ownBlock≠some g)->oO v B x n xs/\∀g,x.ownBlock=some g->h.ownBlock≠some g:=by
  intro x n xs r z;refine⟨mI r λg c=>?_,λg c e=>?_⟩
  .have A:=(jd r c).2.1;exact(G.block g sO λe=>z g c e.symm).trans (aap _ _ _ A)
  have A:=(jd r c).2.1;rcases a with a|a
  .exact z g c (a.symm.trans e)
  rw[a]at e;simp at e;omega
 refine⟨l++[s],by rw[abU,List.length_singleton];exact m,λi p f=>?_⟩;by_cases y:i<(xss:Nat)
 .rw[abO y]at f;obtain⟨s',H,I,J⟩:=E i p f;exact⟨s',by rw[abO oM];exact H,d I J⟩
 rw[abu oM]at f;obtain⟨rfl,e⟩:xs=p/\i=(xss:Nat):=by
  cases C:i-xss with
  |zero=>rw[C]at f;exact⟨by simpa using f,oM⟩
  |succ j=>rw[C]at f;simp at f
 subst e;exact⟨s,by rw[abu oM];simp[o],d (LO F) q⟩
def cY.keep(h:cY w B u xss)(c:∀g,B<=g->v.heap[g]?=w.heap[g]?):cY v B u xss:=by
 obtain⟨f,d,j⟩:=h;refine⟨f,bn d λg a=>c g (ak d a).1,λi xs l=>?_⟩;obtain⟨s,m,e,o⟩:=j i xs l;exact⟨s,m,mI e λg a=>c g (jd e a).1,o⟩
def MO:(prog.info? 53).map (λi=>(i.zero,i.size,i.bytes))=some (some (.slice none 0 0),1,24):=by kernel_rfl
def py{p:Es}{v:Aq}(h:w p=v):p.block<w:=by
 unfold World.cell? at h;split at h
 .rename_i a;exact(Zq.1 a).1
 cases h
def o8(w:AK)(c:Array Aq)(t:E1){o:Nat}:(w.alloc (.cells c t)).frozen? (aD w o)=false:=by
 unfold World.frozen?;rw[World.alloc_heap_new];simp
def pS{o:Nat}{v:Aq}(h:o≠k):(w.setCell (aD b k) v) (aD b o)=w (aD b o):=by
 unfold World.cell?;have e:(w.setCell (aD b k) v).heap[b]?=(w.heap[b]?).map λa=>match a with
  |.cells c d frozen=>.cells (c.setIfInBounds k v) d frozen
  |o=>o:=by
  show(w.heap.modify b _)[b]?=_;rw[aaD,ZC rfl];cases w.heap[b]? with
  |none=>rfl
  |some a=>cases a<;>rfl
 simp only[e];cases w.heap[b]? with
 |none=>rfl
 |some a=>
  cases a<;>simp[ab8,abj h]
def vy{v:Aq}:(w.setCell (aD b k) v).shape? b=w.shape? b:=by
 unfold World.shape?;have e:(w.setCell (aD b k) v).heap[b]?=(w.heap[b]?).map λa=>match a with
  |.cells c d frozen=>.cells (c.setIfInBounds k v) d frozen
  |o=>o:=by
  show(w.heap.modify b _)[b]?=_;rw[aaD,ZC rfl];cases w.heap[b]? with
  |none=>rfl
  |some a=>cases a<;>rfl
 rw[e];cases w.heap[b]? with
 |none=>rfl
 |some a=>cases a<;>simp
def iq(x:LR->Nat×Nat×Bool)(F:Nat)(r:LR)(l:List LR):aW x F (r::l)=aW x ((if r.o=10/\(x r).2.2=false then 0 else F)|||(x r).2.1) l:=rfl
def DH(x:LR->Nat×Nat×Bool):∀(l:List LR)(F G:Nat),(aW x F l=aW x G l)\/(∃m,∀H,aW x H l=H|||m)
 |[],F,G=>.inr ⟨0,λH=>by simp[aW]⟩
 |r::l,F,G=>by
  by_cases a:r.o=10/\(x r).2.2=false
  .left;rw[iq,iq,ZC a,ZC a]
  rcases DH x l (F|||(x r).2.1) (G|||(x r).2.1)with h|⟨m,h⟩
  .left;rw[iq,iq,Zr a,Zr a,h]
  right;refine⟨(x r).2.1|||m,λH=>?_⟩;rw[iq,Zr a,h,abb]
def B0(x:LR->Nat×Nat×Bool)(F:Nat)(l:List LR):aW x (aW x F l) l=aW x F l:=by
 rcases DH x l (aW x F l) F with h|⟨m,h⟩
 .exact h
 rw[h (aW x F l),h F,abb,acn]
def PI{x0 x1 x2 x4 x5 x8 x9 aa ab ac ad ae af ag ah al am an ao ap aq ar cO au av aw ax ay az aA aB aE aF aG aH aI aJ aK aL aM aN aO aP aR aS aU aV aX aY aZ a0 a1 a2 a3 a4 a5 a6 a7 a8 a9 bb bc bd be bf bg bh bi bj bk bm bo bp bq br bs bt bu bv bw bx bz bA bB bC bD bF bG bH bI bJ bK bL bM bN bO bP bQ bS bT bU bV bW bX bY bZ b0 b1 b2 b3 b4 b5 b6 b7 b8 b9 ca cd ce cf cg ch ci cj ck cl cm cn cp cq cr cs ct cu cv cw cx cy cz cA cC cD cE cG cH cI cL cM cN:Aq}{ds:List Deferred}{Q:Exit->Act->AK->Prop}(E S d cb co i n cc B:Nat)(A':Option Es)(cap':Nat)(rs:List LR)(hl:(rs:Nat)<=1048576)(x:LR->Nat×Nat×Bool)(hx:∀r,(x r).2.1<256)(f0:Nat)(hf0:f0<1073741824)
 (hDo:∀r,r∈rs->∀W,aT W->Bf prog 29 #[REC r.o r.m r.a r.b r.c] W (ai (x r).1 (x r).2.1 (x r).2.2 W))
 (hc:w ⟨cb,co+i,none⟩=some (.slice A' rs cap'))(hin:i<n)(hr:bE w A' 5 (rs.map gvC))
 (stop:Int)(hS0:w ⟨S,0,none⟩=some (.bool false))(hS:w ⟨S,1,none⟩=some (.int .i64 stop))(hS1:S<B)(hS2:S≠E)
 (u:Aq)(xss:List (List (Nat×Nat×Bool)))(hxl:(xss:Nat)<=1048576)(hu:cY w B u xss)(hT0:w ⟨d,0,none⟩=u)(hTz0:w.frozen? ⟨d,0,none⟩=false)(hT:w ⟨d,1,none⟩=some (.bool true))(hTz:w.frozen? ⟨d,1,none⟩=false)(hT1:d<B)(y:d≠E)(hB:B<=w)
 (hE:w ⟨E,0,none⟩=some (.int .u32 f0))(hEz:w.frozen? ⟨E,0,none⟩=false)(hEB:E<B)(hE0:E≠0)(htab:aT w)
 (hQ:∀⦃y10 y11 y12 y15 y40 y41 y42 y43 y44 y45 y46 y67 y98 y99 y100 y101 y102 y103 y104 y105 y106 y107 y108 y109 y110 y111 y112:Aq⦄(D1 D2:Nat) (W:AK) (u':Aq),w<=D1->D1<D2->W.heap[D1]?=some (.deferred (some []))->W.heap[D2]?=some (.deferred (some []))->
  aQ w (λk=>k=E\/k=d\/u.ownBlock=some k) w W->W ⟨E,0,none⟩=some (.int .u32 (aW x f0 (rs.take (cJ rs stop)):Nat))->W.frozen? ⟨E,0,none⟩=false->W ⟨d,0,none⟩=u'->W.frozen? ⟨d,0,none⟩=false->W ⟨d,1,none⟩=some (.bool true)->W.frozen? ⟨d,1,none⟩=false->
  cY W B u' (xss++[(rs.take (cJ rs stop)).map x])->(W.shape? d=w.shape? d/\∀o,o≠0->W ⟨d,o,none⟩=w ⟨d,o,none⟩/\W.frozen? ⟨d,o,none⟩=w.frozen? ⟨d,o,none⟩)->Q .normal ⟨(x0::x1::x2::.pointer (some ⟨E,0,none⟩)::x4::x5::.pointer (some ⟨S,0,none⟩)::.pointer (some ⟨d,0,none⟩)::x8::x9::y10::y11::y12::ad::ae::y15::ag::ah::al::am::an::ao::ap::aq::ar::cO::au::av::aw::ax::ay::az::aA::aB::aE::aF::.slice (some ⟨cb,co,none⟩) n cc::aG::.int .i64 i::aH::y40::y41::y42::y43::y44::y45::y46::aP::aR::aS::aU::aV::aX::aY::aZ::a0::a1::a2::a3::a4::a5::a6::a7::a8::a9::bb::bc::y67::be::bf::bg::bh::bi::bj::bk::bm::bo::bp::bq::br::bs::bt::bu::bv::bw::bx::bz::bA::bB::bC::bD::bF::bG::bH::bI::bJ::bK::bL::y98::y99::y100::y101::y102::y103::y104::y105::y106::y107::y108::y109::y110::y111::y112::b2::b3::b4::b5::b6::b7::b8::b9::ca::cd::ce::cf::cg::ch::ci::cj::ck::cl::cm::cn::cp::cq::cr::cs::ct::cu::cv::cw::cx::cy::cz::cA::cC::cD::cE::cG::cH::cI::cL::cM::cN::[]).toArray,{target:=.collected D2,args:=#[]}::{target:=.collected D1,args:=#[]}::ds⟩ W):
 C6.wpIn Fence.wide 2 prog Q ⟨(x0::x1::x2::.pointer (some ⟨E,0,none⟩)::x4::x5::.pointer (some ⟨S,0,none⟩)::.pointer (some ⟨d,0,none⟩)::x8::x9::aa::ab::ac::ad::ae::af::ag::ah::al::am::an::ao::ap::aq::ar::cO::au::av::aw::ax::ay::az::aA::aB::aE::aF::.slice (some ⟨cb,co,none⟩) n cc::aG::.int .i64 i::aH::aI::aJ::aK::aL::aM::aN::aO::aP::aR::aS::aU::aV::aX::aY::aZ::a0::a1::a2::a3::a4::a5::a6::a7::a8::a9::bb::bc::bd::be::bf::bg::bh::bi::bj::bk::bm::bo::bp::bq::br::bs::bt::bu::bv::bw::bx::bz::bA::bB::bC::bD::bF::bG::bH::bI::bJ::bK::bL::bM::bN::bO::bP::bQ::bS::bT::bU::bV::bW::bX::bY::bZ::b0::b1::b2::b3::b4::b5::b6::b7::b8::b9::ca::cd::ce::cf::cg::ch::ci::cj::ck::cl::cm::cn::cp::cq::cr::cs::ct::cu::cv::cw::cx::cy::cz::cA::cC::cD::cE::cG::cH::cI::cL::cM::cN::[]).toArray,ds⟩ w:=by
 replace hQ:=Zp hQ;replace hr:=Zp hr;have ead:(⟨cb,co,none⟩:Es).add i=⟨cb,co+i,none⟩:=by simp[Addr.add]
 have hin':(i:Int)<n:=oM;conv=>arg 4;whnf
 gi_wp2_with(gi_at_call 40;refine(callsIn_wide.2 (CZ E A' cap' rs hl w hr.out)).mono ?_;rintro e z⟨oB,eB,s,rfl,ho1,ho2,ho3,ho4,ho5,hb1⟩)
 obtain⟨oA,oc,rfl,hrw⟩:=dn eG ho4;have N:Np z z (z.alloc (.cells #[.slice none 0 0] 53)):=(Zx _ _).alloc (Zo _) _;have hR2:(z.alloc (.cells #[.slice none 0 0] 53)) ⟨z,0,none⟩=some (.slice none 0 0):=by rw[ZK _ _ _ _ rfl];rfl
 have T:(z.alloc (.cells #[.slice none 0 0] 53)).frozen? ⟨z,0,none⟩=false:=o8 _ _ _;have hz2:((z.alloc (.cells #[.slice none 0 0] 53)):Nat)=z+1:=sM;have U:∀a,oA=some a->w<=a.block/\a.block<z:=λa O=>by subst O;exact ak ho4 rfl
 have hs1:=hb1.size;generalize z.alloc (.cells #[.slice none 0 0] 53)=w2 at N hR2 T hz2⊢;have A:Np w w w2:=hb1.trans (N.mono hs1);have hob:oB<z:=py ho3;have heb:eB<z:=py ho5;have hI2:It E oB eB oA oc rs f0 w2:=⟨(N.cell (p:=⟨oB,0,none⟩) hob).trans ho3,(N.cell (p:=⟨eB,0,none⟩) heb).trans ho5,(A.cell (p:=⟨E,0,none⟩) (show E<_ by omega)).trans hE,(A.frozen (p:=⟨E,0,none⟩) (show E<_ by omega)).trans hEz,hrw.below N,λa O=>by have:=U a O;omega,⟨oM,oM⟩,⟨oM,oM⟩,oM,hE0,htab.belowX (aj.of A) hE0⟩;have V:w2 ⟨S,1,none⟩=some (.int .i64 stop):=(A.cell (p:=⟨S,1,none⟩) (show S<_ by omega)).trans hS;have X:w2 ⟨d,1,none⟩=some (.bool true):=(A.cell (p:=⟨d,1,none⟩) (show d<_ by omega)).trans hT;have Y:w2.frozen? ⟨d,1,none⟩=false:=(A.frozen (p:=⟨d,1,none⟩) (show d<_ by omega)).trans hTz;refine MZ E oB eB S d z oA oc rs hl x hx f0 hf0 hDo hI2 stop V oM hS2 oM X Y oM y oM hR2 T oM oM hob heb (λa O=>(U a O).2) ?_
 intro D1 G hD1 hd1 D hI3;have hlK:(rs.take (cJ rs stop))=cJ rs stop:=by
  rw[aaY];unfold cJ;split<;>omega
 obtain⟨s3,hr3,t⟩:=D.r;obtain⟨rA,rc,rfl,hrw3⟩:=dn (f:=λr=>rsC (x r)) (λ_=>rfl) t;rw[hlK]at hr3 t;have hrA:∀a,rA=some a->w2<=a.block/\a.block<G:=λa O=>by subst O;exact ak t rfl
 have hs3:=D.b.size;have q:Np G G (G.alloc (.cells #[.int .i64 0] 3)):=(Zx _ _).alloc (Zo _) _;have hN4:(G.alloc (.cells #[.int .i64 0] 3)) ⟨G,0,none⟩=some (.int .i64 0):=by rw[ZK _ _ _ _ rfl];rfl
 have Z:(G.alloc (.cells #[.int .i64 0] 3)).frozen? ⟨G,0,none⟩=false:=o8 _ _ _;have hz4:((G.alloc (.cells #[.int .i64 0] 3)):Nat)=G+1:=sM;have hT3':G ⟨d,1,none⟩=some (.bool true):=(D.b.cell (p:=⟨d,1,none⟩) (show d<_ by omega) (λe=>e.elim y (show¬d=_ by omega))).trans X;have hTz3:G.frozen? ⟨d,1,none⟩=false:=(D.b.frozen (p:=⟨d,1,none⟩) (show d<_ by omega) (λe=>e.elim y (show¬d=_ by omega))).trans Y;have hS3':G ⟨S,1,none⟩=some (.int .i64 stop):=(D.b.cell (p:=⟨S,1,none⟩) (show S<_ by omega) (λe=>e.elim hS2 (show¬S=_ by omega))).trans V
 gi_wp2
 generalize G.alloc (.cells #[.int .i64 0] 3)=w4 at q hN4 Z hz4⊢;have hf1:aW x f0 (rs.take (cJ rs stop))<1073741824:=rJ hx hf0 _;have hI4:It E oB eB oA oc rs (aW x f0 (rs.take (cJ rs stop))) w4:=hI3.low (show oB<G by omega) (show eB<G by omega) (show E<G by omega) (λa O=>by have:=U a O;omega) q;have hR4:w4 ⟨z,0,none⟩=some (.slice rA (cJ rs stop) rc):=(q.cell (p:=⟨z,0,none⟩) (show (z:Nat)<_ by omega)).trans hr3;have hT4:w4 ⟨d,1,none⟩=some (.bool true):=(q.cell (p:=⟨d,1,none⟩) (show d<_ by omega)).trans hT3';have hTz4:w4.frozen? ⟨d,1,none⟩=false:=(q.frozen (p:=⟨d,1,none⟩) (show d<_ by omega)).trans hTz3;have hS4:w4 ⟨S,1,none⟩=some (.int .i64 stop):=(q.cell (p:=⟨S,1,none⟩) (show S<_ by omega)).trans hS3';refine H9 E oB eB S d z G rc oA oc rs hl x hx (aW x f0 (rs.take (cJ rs stop))) hf1 hDo hI4 stop hS4 oM hS2 oM hT4 hTz4 oM y oM ⟨rA,hR4,hrw3.below q,λa O=>by have:=hrA a O;omega⟩ oM oM oM hN4 Z oM oM oM oM (λa O=>by have:=U a O;omega) ?_;intro D2 I hD2 hd2 F hI5;rename_i K6 h6;replace h6:=Zp h6;have hs5:=F.b.size;have l:∀b,b<(w:Nat)->b≠E->I.heap[b]?=w.heap[b]?:=λb h1 h2=>(F.b.block b oM (λe=>e.elim h2 oM)).trans ((q.block b oM).trans ((D.b.block b oM (λe=>e.elim h2 oM)).trans (A.block b h1)));have hT05:I ⟨d,0,none⟩=u:=(ZW (l d oM y)).trans hT0;have hTz05:I.frozen? ⟨d,0,none⟩=false:=(aak (l d oM y)).trans hTz0;have hT5:I ⟨d,1,none⟩=some (.bool true):=(ZW (l d oM y)).trans hT;have hTz5:I.frozen? ⟨d,1,none⟩=false:=(aak (l d oM y)).trans hTz;have hself:=fP hT5;have hTb5:=Zp (l d oM y);have hN5:=F.n;have hR5:I ⟨z,0,none⟩=some (.slice rA (cJ rs stop) rc):=(F.b.cell (p:=⟨z,0,none⟩) (show (z:Nat)<_ by omega) (λe=>e.elim (show¬z=E by omega) (show¬(z:Nat)=_ by omega))).trans hR4;have hE5:=hI5.hc;have hEz5:=hI5.hz;rw[B0]at hE5;have hd15:I.heap[D1]?=some (.deferred (some [])):=by
  have hlt:D1<G:=(Zq.1 hd1).1;exact(F.b.block D1 oM (λe=>e.elim oM oM)).trans ((q.block D1 hlt).trans hd1)
 have hlt1:D1<G:=(Zq.1 hd1).1;have hlt2:D2<I:=(Zq.1 hd2).1;have hown5:I.ownsRow B 56 3 (.slice rA (cJ rs stop) rc) (cJ rs stop) ((rs.take (cJ rs stop)).flatMap λr=>rsC (x r)):=iu (bn t λg R=>by
  have h:=ak t R;exact(F.b.block g oM (λe=>e.elim oM oM)).trans (q.block g h.2)) oM
 obtain⟨ss,hu1,hu2⟩:=hu;have hk5:∀{e size n:Nat}{v:Aq}{xs:List Aq},w.ownsRow B e size v n xs->I.ownsRow B e size v n xs:=λh=>bn h λg R=>by
  have:=ak h R;exact l g this.2 oM
 have hkR:∀{n:Nat}{v:Aq}{xs:List Aq},oO w B v n xs->oO I B v n xs:=λh=>mI h λg R=>by
  have:=jd h R;exact l g this.2.1 oM
 have hu15:=hk5 hu1;have M:∀(i:Nat)(xs:List (Nat×Nat×Bool)),xss[i]?=some xs->∃s,ss[i]?=some s/\oO I B s xs (xs.flatMap rsC)/\∀g,s.ownBlock=some g->u.ownBlock≠some g:=λi xs hi=>by
  obtain⟨s,h1,h2,h3⟩:=hu2 i xs hi;exact⟨s,h1,hkR h2,h3⟩
 obtain⟨uA,uc,rfl⟩:=ba hu1;have P:∀g,(Value.slice uA xss uc).ownBlock=some g->B<=g/\g<(w:Nat):=λg R=>ak hu1 R;obtain⟨i1,hi',hy0,hy1,hy2⟩:=abq MO;have hbf:∀b,b<(w:Nat)->¬(b=E\/b=d\/(Value.slice uA xss uc).ownBlock=some b)->I.heap[b]?=w.heap[b]?:=λb h1 h2=>l b h1 (λe=>h2 (.inl e));have hbs:aQ w (λk=>k=E\/k=d\/(Value.slice uA xss uc).ownBlock=some k) w I:=
  ⟨F.b.os.trans (q.os.trans (D.b.os.trans A.os)),F.b.tape.trans (q.tape.trans (D.b.tape.trans A.tape)),F.b.output.trans (q.output.trans (D.b.output.trans A.output)),oM,hbf⟩
 have hDD:w<=D1/\D1<D2:=⟨oM,oM⟩;have hs15:(w:Nat)<=I:=oM;replace M:=Zp M;replace hbs:=Zp hbs;replace hu1:=Zp hu1;clear hk5 hkR hbf l hu2 F hI5 D hI3 hI4 hI2 hrw hrw3 hd1 t hT4 hTz4 hS4 hR4 hN4 Z q N hR2 T hT3' hTz3 hS3' V X Y hS hS0 hT0 hTz0 hT hTz hE hEz hb1 A ho3 ho4 ho5 hr3;refine h6.out _ _ ?_;refine aek.2 ?_
 go_wp2_with(at_builtin;refine wpList_append_own_at _ rfl (.tmp 108) (.tmp 110) 43 rfl B 53 i1 _ 1 24 underlying43 hi' hy0 hy1 hy2 rfl dC _ xss ss rfl (hu15.alloc _) ⟨I,0,none⟩ 1 1 _ rfl rfl (cell_one_new _ _ _) ?d2 ?d3 ?d4 ?d5 ?_)
 case d2=>intro u hu;simp at hu;subst hu;rfl
 case d3=>simp only[maxLen];omega
 case d4=>omega
 case d5=>simp;omega
 intro v' H L C _ hat6;obtain⟨J,K,rfl⟩:=ba L;have j:∀b,b<(I:Nat)->(Value.slice uA xss uc).ownBlock≠some b->H.heap[b]?=I.heap[b]?:=λb h1 h2=>(C.block b sO (abj h2)).trans (aap _ _ _ h1);have hTn:(Value.slice uA xss uc).ownBlock≠some d:=λe=>by have:=P _ e;omega
 have hEn:(Value.slice uA xss uc).ownBlock≠some E:=λe=>by have:=P _ e;omega
 have hT06:H ⟨d,0,none⟩=some (.slice uA xss uc):=(ZW (j d oM hTn)).trans hT05;have hTz06:H.frozen? ⟨d,0,none⟩=false:=(aak (j d oM hTn)).trans hTz05;have hT6:H ⟨d,1,none⟩=some (.bool true):=(ZW (j d oM hTn)).trans hT5;have hTz6:H.frozen? ⟨d,1,none⟩=false:=(aak (j d oM hTn)).trans hTz5;have hE6:=(ZW (a:=⟨E,0,none⟩) (j E oM hEn)).trans hE5;have hEz6:=(aak (a:=⟨E,0,none⟩) (j E oM hEn)).trans hEz5;have hd16:=(j D1 oM (λe=>by have:=P _ e;omega)).trans hd15;have hd26:=(j D2 hlt2 (λe=>by have:=P _ e;omega)).trans hd2;have hfm:((rs.take (cJ rs stop)).map x).flatMap rsC=(rs.take (cJ rs stop)).flatMap λr=>rsC (x r):=by rw[aes]
 have hRO:cY H B (.slice J (xss+1) K) (xss++[(rs.take (cJ rs stop)).map x]):=cY.more (s:=.slice rA (cJ rs stop) rc) hu15 M.out (by rw[hfm,aao,hlK];exact hown5) (λg R e=>by
  have h1:=P _ e;simp only[Value.ownBlock]at R;cases rA with
  |none=>cases R
  |some a=>have h2:=hrA a rfl;simp at R;omega) L C (hat6.imp id λh=>by rw[h];simp)
 have hs6:=C.size;rw[World.size_alloc]at hs6;have hb6:aQ w (λk=>k=E\/k=d\/(Value.slice uA xss uc).ownBlock=some k) w H:=hbs.out.trans ⟨C.os,C.tape,C.output,oM,λk h1 h2=>j k oM λe=>h2 (.inr (.inr e))⟩;have hb7:=hb6.set (n:=d) (.inl (.inr (.inl rfl))) 0 (.slice J (xss+1) K);have hRO7:cY (H.setCell ⟨d,0,none⟩ (.slice J (xss+1) K)) B (.slice J (xss+1) K) (xss++[(rs.take (cJ rs stop)).map x]):=hRO.keep λg R=>fL oM;have hET:E≠d:=abj y;have k1:=hDD.1;have k2:=hDD.2;have k3:(H.setCell ⟨d,0,none⟩ (.slice J (xss+1) K)).heap[D1]?=some (.deferred (some [])):=(fL oM).trans hd16;have k4:(H.setCell ⟨d,0,none⟩ (.slice J (xss+1) K)).heap[D2]?=some (.deferred (some [])):=(fL oM).trans hd26;have k5:(H.setCell ⟨d,0,none⟩ (.slice J (xss+1) K)) ⟨E,0,none⟩=some (.int .u32 (aW x f0 (rs.take (cJ rs stop)):Nat)):=by simp[go_sem,hE6,y,hET]
 have k6:(H.setCell ⟨d,0,none⟩ (.slice J (xss+1) K)).frozen? ⟨E,0,none⟩=false:=by simpa using hEz6
 have k7:(H.setCell ⟨d,0,none⟩ (.slice J (xss+1) K)) ⟨d,0,none⟩=some (.slice J (xss+1) K):=by simp[go_sem,hT06]
 have k8:(H.setCell ⟨d,0,none⟩ (.slice J (xss+1) K)).frozen? ⟨d,0,none⟩=false:=by simpa using hTz06
 have k9:(H.setCell ⟨d,0,none⟩ (.slice J (xss+1) K)) ⟨d,1,none⟩=some (.bool true):=by simp[go_sem,hT6]
 have k10:(H.setCell ⟨d,0,none⟩ (.slice J (xss+1) K)).frozen? ⟨d,1,none⟩=false:=by simpa using hTz6
 have hTbb:=(j d oM hTn).trans (hTb5.out);have k13:(H.setCell ⟨d,0,none⟩ (.slice J (xss+1) K)).shape? d=w.shape? d/\∀o,o≠0->(H.setCell ⟨d,0,none⟩ (.slice J (xss+1) K)) ⟨d,o,none⟩=w ⟨d,o,none⟩/\(H.setCell ⟨d,0,none⟩ (.slice J (xss+1) K)).frozen? ⟨d,o,none⟩=w.frozen? ⟨d,o,none⟩:=⟨vy.trans (by unfold World.shape?;rw[hTbb]),λo ho=>⟨(pS ho).trans (ZW hTbb),(by simp:_=H.frozen? ⟨d,o,none⟩).trans (aak hTbb)⟩⟩;replace k13:=Zp k13;have kk:=Zp (And.intro k3 (And.intro k4 (And.intro hb7 (And.intro k5 (And.intro k6 (And.intro k7 (And.intro k8 (And.intro k9 (And.intro k10 hRO7)))))))));clear k3 k4 k5 k6 k7 k8 k9 k10 hRO hRO7 hb6 hb7 hbs M hu15 L C hat6 j hE6 hEz6 hd16 hd26 hfm hT6 hTz6 P hrA U hown5 hDo hx hself hT5 hTz5 hR5 hN5 hTz05 hT05
 go_wp2
 obtain⟨k3,k4,k5,k6,k7,k8,k9,k10,k11,k12⟩:=kk.out;exact hQ.out D1 D2 _ _ k1 k2 k3 k4 k5 k6 k7 k8 k9 k10 k11 k12 k13.out
end
section
open Go.Shelf
variable{B i:Nat}{Ds:List Nat}{W w:AK}{ls:List (List LR)}{rs:List LR}{stop:Int}{x:LR->Nat×Nat×Bool}
attribute[local go_sem] Oper.semAt_some wZ
def MG:Code:=match Ef with|.seq _ (.block _ (.loop c))=>c|_=>.skip
def mark(D:Nat):Deferred:={target:=.collected D,args:=#[]}
def jr(B:Nat)(W:AK)(Ds:List Nat):Prop:=Ds.Nodup/\∀D∈Ds,B<=D/\W.heap[D]?=some (.deferred (some []))
def jr.keep{b:AK}(h:jr B W Ds)(c:∀D,B<=D->W.heap[D]?=some (.deferred (some []))->b.heap[D]?=some (.deferred (some []))):jr B b Ds:=
 ⟨h.1,λD a=>⟨(h.2 D a).1,c D (h.2 D a).1 (h.2 D a).2⟩⟩
def jr.more{B':Nat}{D:Nat}(h:jr B W Ds)(b:∀D∈Ds,D<B')(e:B'<=D)(f:B<=B')(c:W.heap[D]?=some (.deferred (some []))):jr B W (D::Ds):=by
 refine⟨List.nodup_cons.2 ⟨λd=>by have:=b D d;omega,h.1⟩,λD' a=>?_⟩;rcases ZM.1 a with rfl|a
 .exact⟨oM,c⟩
 exact h.2 D' a
def Ch{e size n:Nat}{x:Aq}{b:List Aq}(h:w.ownsRow B e size x n b){g:Nat}(a:x.ownBlock=g):∃c t z,w.heap[g]?=some (.cells c t z):=by
 rcases h.2 with⟨rfl,_⟩|⟨g',cap,d,rfl,j,f,_⟩
 .cases a
 simp only[Value.ownBlock,Zt]at a;subst a;exact⟨_,_,_,f⟩
def cut(stop:Int)(rs:List LR):List LR:=rs.take (cJ rs stop)
def told(x:LR->Nat×Nat×Bool)(stop:Int)(ls:List (List LR)):List (List (Nat×Nat×Bool)):=ls.map λrs=>(cut stop rs).map x
def dK(x:LR->Nat×Nat×Bool)(stop:Int)(f:Nat)(ls:List (List LR)):Nat:=ls.foldl (λf rs=>aW x f (cut stop rs)) f
def Ay{f:Nat}(h:ls[i]?=rs):dK x stop f (ls.take (i+1))=aW x (dK x stop f (ls.take i)) (cut stop rs):=by
 obtain⟨a,rfl⟩:=ZL.1 h;unfold dK;rw[aas a,ab3];rfl
def wB(a:∀r,(x r).2.1<256):∀(ls:List (List LR))(f:Nat),f<1073741824->dK x stop f ls<1073741824
 |[],_,h=>h
 |rs::ls,f,h=>wB a ls _ (rJ a h _)
def E4(h:ls[i]?=rs):told x stop (ls.take (i+1))=told x stop (ls.take i)++[(cut stop rs).map x]:=by
 obtain⟨a,rfl⟩:=ZL.1 h;unfold told;rw[aas a,List.map_append];rfl
def cH.keep{v:AK}{u:Aq}{f:LR->List Aq}(h:cH w B u f ls)(d:∀g,B<=g->g<(w:Nat)->v.heap[g]?=w.heap[g]?):cH v B u f ls:=by
 obtain⟨e,b,j⟩:=h;refine⟨e,bn b λg a=>d g (ak b a).1 (ak b a).2,λi k l=>?_⟩;obtain⟨s,m,c,n⟩:=j i k l;exact⟨s,m,bn c λg a=>d g (ak c a).1 (ak c a).2,n⟩
def CB{Q:Exit->Act->AK->Prop}(ds:List Deferred)(w:AK)(E S Tb B₀ n:Nat)(u8:Aq)(ls:List (List LR))(hn:n=ls)(hln:(ls:Nat)<=1048576)(hll:∀rs,rs∈ls->(rs:Nat)<=1048576)(x:LR->Nat×Nat×Bool)(hx:∀r,(x r).2.1<256)(f0:Nat)(hf0:f0<1073741824)
 (hDo:∀rs,rs∈ls->∀r,r∈rs->∀W,aT W->Bf prog 29 #[REC r.o r.m r.a r.b r.c] W (ai (x r).1 (x r).2.1 (x r).2.2 W))
 (hls:cH w B₀ u8 gvC ls)(hEB:E<B₀)(hE0:E≠0)(hTB:Tb<B₀)(hSB:S<B₀)(hTE:Tb≠E)(hSE:S≠E)(hST:S≠Tb)(hB:B₀<=w)(hT0n:Tb≠0)
 (stop:Int)(hS0:cF w S 0 (.bool false))(hS:cF w S 1 (iI stop))(htab:aT w)
 (x0 x1 x2 x4 x5 x8 x9 aa ab ac ad ae af ag ah aj al am an ao ap aq ar ca au av aw ax ay az aA aB aE aF aG aH aI aJ aK aL aM aN aO aP aR aS aU aV aX aY aZ a0 a1 a2 a3 a4 a5 a6 a7 a8 a9 ba bb bc bd be bf bg bh bi bj bk bm bo bp bq br bs bt bu bv bw bx bz bA bB bC bD bE bF bG bH bI bJ bK bL bM bN bO bP bQ bS bT bU bV bW bX bY bZ b0 b1 b2 b3 b4 b5 b6 b7 b8 b9:Aq)
 (hQ:∀⦃M N O P R T U V X Y Z cc cd ce cg d f j l q s u v y C F G H I:Aq⦄(Ds:List Nat) (W:AK) (u':Aq),jr w W Ds->
  aQ w (λk=>k=E\/k=Tb) w W->W (aD E 0)=some (iH (dK x stop f0 ls:Nat))->W.frozen? (aD E 0)=false->W (aD Tb 0)=u'->W.frozen? (aD Tb 0)=false->W (aD Tb 1)=some (.bool true)->W.frozen? (aD Tb 1)=false->
  cY W w u' (told x stop ls)->(W.shape? Tb=w.shape? Tb/\∀o,o≠0->W (aD Tb o)=w (aD Tb o)/\W.frozen? (aD Tb o)=w.frozen? (aD Tb o))->Q .normal ⟨(x0::x1::x2::pT E 0::x4::x5::pT S 0::pT Tb 0::x8::x9::M::N::O::aa::ab::P::ac::ad::ae::af::ag::ah::aj::al::am::an::ao::ap::aq::ar::ca::au::av::aw::ax::ay::u8::iI n::iI n::R::T::U::V::X::Y::Z::cc::az::aA::aB::aE::aF::aG::aH::aI::aJ::aK::aL::aM::aN::aO::aP::aR::aS::aU::aV::aX::cd::aY::aZ::a0::a1::a2::a3::a4::a5::a6::a7::a8::a9::ba::bb::bc::bd::be::bf::bg::bh::bi::bj::bk::bm::bo::bp::bq::br::bs::bt::ce::cg::d::f::j::l::q::s::u::v::y::C::F::G::H::I::bu::bv::bw::bx::bz::bA::bB::bC::bD::bE::bF::bG::bH::bI::bJ::bK::bL::bM::bN::bO::bP::bQ::bS::bT::bU::bV::bW::bX::bY::bZ::b0::b1::b2::b3::b4::b5::b6::b7::b8::b9::[]).toArray,Ds.map mark++ds⟩ W):
 ∀(m i:Nat)(M N O P R T U V X Y Z cc cd ce cg d f j l q s u v y C F G H I:Aq)(Ds:List Nat)(W:AK)(u':Aq),i+m=n->jr w W Ds->
  aQ w (λk=>k=E\/k=Tb) w W->W (aD E 0)=some (iH (dK x stop f0 (ls.take i):Nat))->W.frozen? (aD E 0)=false->W (aD Tb 0)=u'->W.frozen? (aD Tb 0)=false->W (aD Tb 1)=some (.bool true)->W.frozen? (aD Tb 1)=false->
  cY W w u' (told x stop (ls.take i))->(W.shape? Tb=w.shape? Tb/\∀o,o≠0->W (aD Tb o)=w (aD Tb o)/\W.frozen? (aD Tb o)=w.frozen? (aD Tb o))->Code.roundsIn Fence.wide 2 prog MG (Exit.inBlock 2 Q) (m+1) ⟨(x0::x1::x2::pT E 0::x4::x5::pT S 0::pT Tb 0::x8::x9::M::N::O::aa::ab::P::ac::ad::ae::af::ag::ah::aj::al::am::an::ao::ap::aq::ar::ca::au::av::aw::ax::ay::u8::iI n::iI i::R::T::U::V::X::Y::Z::cc::az::aA::aB::aE::aF::aG::aH::aI::aJ::aK::aL::aM::aN::aO::aP::aR::aS::aU::aV::aX::cd::aY::aZ::a0::a1::a2::a3::a4::a5::a6::a7::a8::a9::ba::bb::bc::bd::be::bf::bg::bh::bi::bj::bk::bm::bo::bp::bq::br::bs::bt::ce::cg::d::f::j::l::q::s::u::v::y::C::F::G::H::I::bu::bv::bw::bx::bz::bA::bB::bC::bD::bE::bF::bG::bH::bI::bJ::bK::bL::bM::bN::bO::bP::bQ::bS::bT::bU::bV::bW::bX::bY::bZ::b0::b1::b2::b3::b4::b5::b6::b7::b8::b9::[]).toArray,Ds.map mark++ds⟩ W:=by
 subst hn;intro m;replace hQ:=Zp hQ;replace hDo:=Zp hDo;replace hll:=Zp hll;replace hls:=Zp hls;induction m with
 |zero=>
  intro i M N O P R T U V X Y Z cc cd ce cg d f j l q s u v y C F G H I Ds W u' him hp hb hE hEz hT0 J hT1 K hR ch;obtain rfl:i=ls:=oM;rw[aaL]at hE hR;rw[roundsIn_succ];conv=>arg 4;whnf
  refine aew ?_;intro K1 L;replace L:=Zp L
  gi_wp2
  refine L.out _ _ ?_;refine aew ?_;intro K2 h2;replace h2:=Zp h2
  gi_wp2
  exact hQ.out Ds W u' hp hb hE hEz hT0 J hT1 K hR ch
 |succ m ih=>
  intro i M N O P R T U V X Y Z cc cd ce cg d f j l q s u v y C F G H I Ds W u' him hp hb hE hEz hT0 J hT1 K hR ch;have hlt:i<ls:=oM;have hlt':(i:Int)<ls:=oM;obtain⟨rs,hrs⟩:∃rs,ls[i]?=some rs:=⟨_,ZN oM⟩;have hmem:=aae hrs;have hkb:∀g,B₀<=g->g<(w:Nat)->W.heap[g]?=w.heap[g]?:=λg L h2=>hb.block g h2 (λe=>e.elim oM oM);obtain⟨A,cap,rfl,hla⟩:=gq eG (hls.out.keep hkb);obtain⟨⟨cb,co,csp⟩,A',cap',rfl,hsp,hblk,hc,hrows⟩:=hla i (rs.map gvC) (by rw[aaf,hrs];rfl);simp only at hsp hblk hc;subst hsp;rw[aao]at hc;have hS0':cF W S 0 (.bool false):=(hb.cell (p:=aD S 0) (show S<_ by omega) λe=>e.elim hSE hST).trans hS0;have hS':cF W S 1 (iI stop):=(hb.cell (p:=aD S 1) (show S<_ by omega) λe=>e.elim hSE hST).trans hS;have htab':aT W:=λop L h2=>⟨(hb.cell (p:=aD 0 _) (show 0<_ by omega) λe=>e.elim (abj hE0) (abj hT0n)).trans (htab op L h2).1,(hb.cell (p:=aD 0 _) (show 0<_ by omega) λe=>e.elim (abj hE0) (abj hT0n)).trans (htab op L h2).2⟩;have hf1:=wB hx (stop:=stop) (ls.take i) f0 hf0;have hbs:=hb.size;have htl:((told x stop (ls.take i)):Nat)<=1048576:=by unfold told;rw[aao,aaY];omega
  rw[roundsIn_succ];conv=>arg 4;whnf
  refine aew ?_;intro K1 L;replace L:=Zp L
  gi_wp2
  refine L.out _ _ ?_;refine aew ?_;intro K2 h2;replace h2:=Zp h2
  gi_wp2
  refine h2.out _ _ ?_;refine aew ?_;intro K3 h3;replace h3:=Zp h3;refine wpIn_block ?_;refine PI E S Tb cb co i ls cap w A' cap' rs (hll.out rs hmem) x hx _ hf1 (hDo.out rs hmem) hc hlt hrows stop hS0' hS' oM hSE u' _ htl hR hT0 J hT1 K oM hTE hbs hE hEz oM hE0 htab' ?_;intros;rename_i D1 D2 W2 u2 g1 g2 g3 g4 g5 g6 g7 g8 g9 g10 g11 g12 g13;have hown:∀g,u'.ownBlock=some g->(w:Nat)<=g/\∃c t z,W.heap[g]?=some (.cells c t z):=λg hg=>by
   obtain⟨ss,L,_⟩:=hR;exact⟨(ak L hg).1,Ch L hg⟩
  have hp1:jr w W2 Ds:=hp.keep λD hD h=>(g5.block D (Zq.1 h).1 (by
   rintro(e|e|e)
   .omega
   .omega
   obtain⟨_,c,t,z,h4⟩:=hown D e;rw[h]at h4;cases h4)).trans h
  have hlow:∀D∈Ds,D<(W:Nat):=λD hD=>(Zq.1 (hp.2 D hD).2).1;have hp2:jr w W2 (D2::D1::Ds):=(hp1.more hlow g1 hbs g3).more (B':=D1+1) (λD hD=>by
   rcases ZM.1 hD with rfl|hD
   .omega
   have:=hlow D hD;omega) oM oM g4
  have hb2:aQ w (λk=>k=E\/k=Tb) w W2:=hb.trans (g5.mono hbs λk hk hx=>by
   rcases hx with e|e|e
   .exact .inl e
   .exact .inr e
   have:=(hown k e).1;omega)
  have g6':cF W2 E 0 (iH (dK x stop f0 (ls.take (i+1)):Nat)):=by rw[Ay hrs];exact g6
  have g12':cY W2 w u2 (told x stop (ls.take (i+1))):=by rw[E4 hrs];exact g12
  have hTo2:W2.shape? Tb=w.shape? Tb/\∀o,o≠0->W2 (aD Tb o)=w (aD Tb o)/\W2.frozen? (aD Tb o)=w.frozen? (aD Tb o):=⟨g13.1.trans ch.1,λo ho=>⟨(g13.2 o ho).1.trans (ch.2 o ho).1,(g13.2 o ho).2.trans (ch.2 o ho).2⟩⟩;have hfin:=Zp (And.intro hp2 (And.intro hb2 (And.intro g6' (And.intro g7 (And.intro g8 (And.intro g9 (And.intro g10 (And.intro g11 (And.intro g12' hTo2)))))))));clear hp2 hb2 g6' g6 g7 g8 g9 g10 g11 g12 g12' hp1 hlow hown g5 hS0' hS' hT0 J hT1 K hE hEz hc hla hrows hR hp;refine h3.out _ _ ?_
  gi_wp2
  obtain⟨k1,k2,k3,k4,k5,k6,k7,k8,k9,k10⟩:=hfin.out;exact ih (i+1) _ _ _ _ _ _ _ _ _ _ _ _ _ _ _ _ _ _ _ _ _ _ _ _ _ _ _ _ _ (D2::D1::Ds) W2 u2 oM k1 k2 k3 k4 k5 k6 k7 k8 k9 k10
end
section
open Go.Shelf
def Nz{x0 x1 x2 x3 x4 x5 x9 aa ac ad ae af ag ah ai aj ak al am an ap aq ar cJ au av aw ax ay az aA aB aE aF aG aH aI aJ aK aL aM aN aO aP aQ aR aS aT aU aV aW aX aY aZ a0 a1 a2 a3 a4 a5 a6 a7 a8 a9 ba bc bd be bf bg bi bj bk bm bn bp bq br bs bt bu bv bw bx bz bA bB bC bD bE bF bG bH bI bJ bK bL bM bN bO bP bQ bS bT bU bV bW bX bY bZ b0 b1 b2 b3 b4 b5 b6 b7 b8 b9 ca cc cd ce cf cg ch ci cj ck cl cm cn cp cq cr cs ct cu cv cw cx cy cz cA cC cD cE cG cH cI:Aq}{ds:List Deferred}{Q:Exit->Act->AK->Prop}{w:AK}(S s:Nat)(A A':Option Es)(cap F:Nat)(l:List (List LR))(hl:(l:Nat)<=1048576)(H:∀rs,rs∈l->(rs:Nat)<=1048576)
 (hA:bh w A 5 (l.map (·.map gvC)))(I:bh w A' 5 (l.map (·.map gvC)))(hS:w ⟨S,2,none⟩=some (.slice A' l F))(hS1:S<w)(hT:w ⟨s,1,none⟩=some (.bool true))(M:w.frozen? ⟨s,1,none⟩=false)(N:s<w)
 (hQ:∀⦃y18 y19 y20 O P R T U V X Y Z cM cR cS cW c5 c6 c7 c8 dd di dl dy d9 ea eb ec ed eg eh ej ek el em:Aq⦄(W:AK),Np w w W->Q .normal ⟨(x0::x1::x2::x3::x4::x5::.pointer (some ⟨S,0,none⟩)::.pointer (some ⟨s,0,none⟩)::.slice A l cap::x9::aa::ac::ad::ae::af::ag::ah::ai::y18::y19::y20::am::an::ap::aq::ar::cJ::au::av::aw::ax::ay::az::aA::aB::aE::aF::aG::aH::aI::aJ::aK::aL::aM::aN::aO::aP::aQ::aR::aS::aT::aU::aV::aW::aX::aY::aZ::a0::a1::a2::a3::a4::a5::a6::a7::a8::a9::ba::bc::bd::be::bf::bg::bi::bj::bk::bm::bn::bp::bq::br::bs::bt::bu::bv::bw::bx::bz::bA::bB::bC::bD::bE::bF::bG::bH::bI::bJ::bK::bL::bM::bN::bO::bP::bQ::bS::bT::bU::bV::bW::bX::bY::bZ::b0::O::P::R::T::U::V::X::Y::Z::cM::cR::cS::cW::c5::c6::c7::c8::dd::di::dl::dy::d9::ea::eb::ec::ed::eg::eh::ej::ek::el::em::cz::cA::cC::cD::cE::cG::cH::cI::[]).toArray,ds⟩ W):
 UH.wp prog Q ⟨(x0::x1::x2::x3::x4::x5::.pointer (some ⟨S,0,none⟩)::.pointer (some ⟨s,0,none⟩)::.slice A l cap::x9::aa::ac::ad::ae::af::ag::ah::ai::aj::ak::al::am::an::ap::aq::ar::cJ::au::av::aw::ax::ay::az::aA::aB::aE::aF::aG::aH::aI::aJ::aK::aL::aM::aN::aO::aP::aQ::aR::aS::aT::aU::aV::aW::aX::aY::aZ::a0::a1::a2::a3::a4::a5::a6::a7::a8::a9::ba::bc::bd::be::bf::bg::bi::bj::bk::bm::bn::bp::bq::br::bs::bt::bu::bv::bw::bx::bz::bA::bB::bC::bD::bE::bF::bG::bH::bI::bJ::bK::bL::bM::bN::bO::bP::bQ::bS::bT::bU::bV::bW::bX::bY::bZ::b0::b1::b2::b3::b4::b5::b6::b7::b8::b9::ca::cc::cd::ce::cf::cg::ch::ci::cj::ck::cl::cm::cn::cp::cq::cr::cs::ct::cu::cv::cw::cx::cy::cz::cA::cC::cD::cE::cG::cH::cI::[]).toArray,ds⟩ w:=by
 replace hQ:=Zp hQ;replace hA:=Zp hA;replace I:=Zp I;replace H:=Zp H;conv=>arg 2;whnf
 go_wp2
 go_loopw[116] (λi wr=>∃k:Nat,k<=l/\i=.int .i64 k/\Np w w wr) (λi _=>l-(intOf i).toNat)
 case atStart=>exact⟨0,Z7 _,rfl,Zx _ _⟩
 obtain⟨k,hk,rfl,hB⟩:=hrel;by_cases ep:k<l
 .obtain⟨rs,J⟩:∃rs,l[k]?=some rs:=⟨_,ZN ep⟩;obtain⟨⟨ab,ao,asp⟩,A1,eq,rfl,t,G,hc,h⟩:=hA.out k (rs.map gvC) (by simp[J]);obtain⟨⟨bb,bo,bsp⟩,A2,cap2,rfl,g,v,C,f⟩:=I.out k (rs.map gvC) (by simp[J]);simp only at t G hc g v C;subst t g;rw[aao]at hc C;have ead:(⟨ab,ao,none⟩:Es).add k=⟨ab,ao+k,none⟩:=by simp[Addr.add]
  have ead':(⟨bb,bo,none⟩:Es).add k=⟨bb,bo+k,none⟩:=by simp[Addr.add]
  have hkp:(k:Int)<l:=oM;have hcw:wr ⟨ab,ao+k,none⟩=some (.slice A1 rs eq):=(hB.cell (p:=⟨ab,ao+k,none⟩) G).trans hc;have hrsl:=H.out rs (aae J);replace h:=Zp h;replace f:=Zp f
  go_wp2_with fail
  rename AK=>wO
  go_loopw[123] (λi wr=>∃j:Nat,j<=rs/\i=.int .i64 j/\Np w w wr) (λi _=>rs-(intOf i).toNat)
  case atStart=>exact⟨0,Z7 _,rfl,hB⟩
  obtain⟨j,hj,rfl,d⟩:=hrel;by_cases hjt:j<rs
  .obtain⟨r,hrj⟩:∃r,rs[j]?=some r:=⟨_,ZN hjt⟩;obtain⟨⟨cb,D,csp⟩,rfl,t,x,K⟩:=h.out j (gvC r) (by simp[hrj]);obtain⟨⟨B,e,dsp⟩,rfl,g,y,L⟩:=f.out j (gvC r) (by simp[hrj]);simp only at t x K g y L;subst t g;(have e3:(⟨cb,D,none⟩:Es).add (j*5)=⟨cb,D+j*5,none⟩:=by simp[Addr.add]);(have e4:(⟨B,e,none⟩:Es).add (j*5)=⟨B,e+j*5,none⟩:=by simp[Addr.add]);have n:∀c u,(gvC r)[c]?=some u->wr ⟨cb,D+j*5+c,none⟩=some u:=λc u hu=>(d.cell (p:=⟨cb,D+j*5+c,none⟩) x).trans (K c u hu);have q:∀c u,(gvC r)[c]?=some u->wr ⟨B,e+j*5+c,none⟩=some u:=λc u hu=>(d.cell (p:=⟨B,e+j*5+c,none⟩) y).trans (L c u hu);have c0:wr ⟨cb,D+j*5,none⟩=some (.int .u8 r.o):=n 0 _ rfl;have c1:wr ⟨cb,D+j*5+1,none⟩=some (.int .u8 r.m):=n 1 _ rfl;have c2:wr ⟨cb,D+j*5+2,none⟩=some (.int .u64 r.a):=n 2 _ rfl;have c3:wr ⟨cb,D+j*5+3,none⟩=some (.int .u64 r.b):=n 3 _ rfl;have c4:wr ⟨cb,D+j*5+4,none⟩=some (.int .u64 r.c):=n 4 _ rfl;have d0:wr ⟨B,e+j*5,none⟩=some (.int .u8 r.o):=q 0 _ rfl;have d1:wr ⟨B,e+j*5+1,none⟩=some (.int .u8 r.m):=q 1 _ rfl;have d2:wr ⟨B,e+j*5+2,none⟩=some (.int .u64 r.a):=q 2 _ rfl;have d3:wr ⟨B,e+j*5+3,none⟩=some (.int .u64 r.b):=q 3 _ rfl;have d4:wr ⟨B,e+j*5+4,none⟩=some (.int .u64 r.c):=q 4 _ rfl;have E:wr ⟨s,1,none⟩=some (.bool true):=(d.cell (p:=⟨s,1,none⟩) N).trans hT;have z:wr.frozen? ⟨s,1,none⟩=false:=(d.frozen (p:=⟨s,1,none⟩) N).trans M;have hSi:wr ⟨S,2,none⟩=some (.slice (some ⟨bb,bo,none⟩) l F):=(d.cell (p:=⟨S,2,none⟩) hS1).trans hS;have hci:wr ⟨bb,bo+k,none⟩=some (.slice (some ⟨B,e,none⟩) rs cap2):=(d.cell (p:=⟨bb,bo+k,none⟩) v).trans C;have hjp:(j:Int)<rs:=oM;clear n q K L hc C hT M hS hcw
   go_wp2_with fail
   go_still_tail 17,(by kernel_rfl)
   replace E:wr.drew ⟨s,1,none⟩=some (.bool true):=E;replace z:wr.drew.frozen? ⟨s,1,none⟩=false:=z;replace d:Np w w wr.drew:=d.drew;change wpList _ _ _ _ _ wr.drew;clear c0 c1 c2 c3 c4 d0 d1 d2 d3 d4 hSi hci;generalize wr.drew=w2 at E z d⊢;have hself:=fP E
   go_wp2
   go_roundw
   case rel=>exact⟨j+1,hjt,by go_num,d⟩
   simp[intOf];omega
  obtain rfl:j=rs:=oM
  go_wp2
  go_roundw
  case rel=>exact⟨k+1,ep,by go_num,d⟩
  simp[intOf];omega
 obtain rfl:k=l:=oM
 go_wp2
 exact hQ.out _ hB
end
section
open Go.Shelf
variable{B n size:Nat}{s u:Aq}{t:E1}{v w:AK}{xs:List Aq}{xss:List (List (Nat×Nat×Bool))}
structure TD where
 res:List (List (Nat×Nat×Bool))
 fl:Nat
def tdC(p:Aq×TD):List Aq:=[p.1,.bool true,qB p.2.fl]
def dF{e:Nat}{x:Aq}(h:w.ownsRow B e size x n xs){g:Nat}(a:x.ownBlock=g):∃c z,w.heap[g]?=some (.cells c e z):=by
 rcases h.2 with⟨rfl,_⟩|⟨g',cap,b,rfl,f,d,_⟩
 .cases a
 simp only[Value.ownBlock,Zt]at a;subst a;exact⟨_,_,d⟩
def cY.keepC(h:cY w B u xss)(e:∀(g:Nat)(c:Array Aq)(t:E1)(z:Nat×Nat),B<=g->(t=53\/t=56)->w.heap[g]?=some (.cells c t z)->v.heap[g]?=w.heap[g]?):cY v B u xss:=by
 obtain⟨j,b,k⟩:=h;refine⟨j,bn b λg a=>?_,λi xs l=>?_⟩
 .obtain⟨c,z,d⟩:=dF b a;exact e g c _ z (ak b a).1 (.inl rfl) d
 obtain⟨s,m,f,o⟩:=k i xs l;refine⟨s,m,mI f λg a=>?_,o⟩;obtain⟨p,_,c,z,d⟩:=jd f a;exact e g c _ z p (.inr rfl) d
def cY.base{B':Nat}(h:cY w B u xss)(a:B'<=B):cY w B' u xss:=by
 obtain⟨b,c,d⟩:=h;refine⟨b,iu c a,λi xs e=>?_⟩;obtain⟨s,f,g,j⟩:=d i xs e;exact⟨s,f,FG g a,j⟩
def ia(w:AK)(B:Nat)(t:E1)(size:Nat)(s:Aq)(n:Nat)(xs:List Aq):Prop:=
 xs=n*size/\(∃A cap,s=.slice A n cap/\∀p,A=some p->p.block<w)/\(0<n->∃g cap a,s=qL g 0 n cap/\B<=g/\w.heap[g]?=some (.cells a t (0,0))/\a.toList.take (n*size)=xs)
def jX(h:w.ownsRow B t size s n xs):ia w B t size s n xs:=by
 refine⟨h.1,?_,λi=>?_⟩
 .rcases h.2 with⟨rfl,rfl⟩|⟨g,cap,a,rfl,_,b,_⟩
  .exact⟨_,_,rfl,λp c=>by cases c⟩
  exact⟨_,_,rfl,λp c=>by cases c;exact(Zq.1 b).1⟩
 rcases h.2 with⟨_,j⟩|⟨g,cap,a,d,e,b,_,_,_,f⟩
 .omega
 exact⟨g,cap,a,d,e,b,f⟩
def FF(h:oO w B s n xs):ia w B 56 3 s n xs:=by
 refine⟨h.1,?_,λi=>?_⟩
 .rcases h.2 with⟨rfl,rfl⟩|⟨g,cap,a,rfl,_,b,_⟩
  .exact⟨_,_,rfl,λp c=>by cases c⟩
  exact⟨_,_,rfl,λp c=>by cases c;exact(Zq.1 b).1⟩
 rcases h.2 with⟨_,j⟩|⟨g,cap,a,d,e,b,f⟩
 .omega
 exact⟨g,cap,a,d,e,b,f⟩
def vI(i:0<size)(j:(w:Nat)<=v)(h:ia w B t size s n xs)(k:∀g c,B<=g->w.heap[g]?=some (.cells c t (0,0))->0<c.size->v.heap[g]?=w.heap[g]?):ia v B t size s n xs:=by
 refine⟨h.1,(let⟨A,cap,q1,q2⟩:=h.2.1;⟨A,cap,q1,λp l=>ZB (q2 p l) j⟩),λb=>?_⟩;obtain⟨g,cap,a,m,d,e,f⟩:=h.2.2 b;refine⟨g,cap,a,m,d,(k g a d e ?_).trans e,f⟩;have:=h.1;rw[<-f,aaY]at this;have o:0<n*size:=abr b i;have:0<(a.toList:Nat):=oM;simpa using this
def RsW(w:AK)(B:Nat)(u:Aq)(xss:List (List (Nat×Nat×Bool))):Prop:=
 ∃a,ia w B 53 1 u xss a/\∀(i:Nat)(xs:List (Nat×Nat×Bool)),xss[i]?=xs->∃s,a[i]?=some s/\ia w B 56 3 s xs (xs.flatMap rsC)
def RsW.of(h:cY w B u xss):RsW w B u xss:=by
 obtain⟨a,b,c⟩:=h;refine⟨a,jX b,λi xs d=>?_⟩;obtain⟨s,e,f,_⟩:=c i xs d;exact⟨s,e,FF f⟩
def RsW.keepN(h:RsW w B u xss)(b:(w:Nat)<=v)(d:∀(g:Nat)(c:Array Aq)(t:E1),B<=g->(t=53\/t=56)->w.heap[g]?=some (.cells c t (0,0))->0<c.size->v.heap[g]?=w.heap[g]?):RsW v B u xss:=by
 obtain⟨e,f,j⟩:=h;refine⟨e,vI dC b f λg c a=>d g c _ a (.inl rfl),λi xs k=>?_⟩;obtain⟨s,l,m⟩:=j i xs k;exact⟨s,l,vI dC b m λg c a=>d g c _ a (.inr rfl)⟩
def RsW.keepC(h:RsW w B u xss)(a:(w:Nat)<=v)(b:∀(g:Nat)(c:Array Aq)(t:E1)(z:Nat×Nat),B<=g->(t=53\/t=56)->w.heap[g]?=some (.cells c t z)->v.heap[g]?=w.heap[g]?):RsW v B u xss:=
 h.keepN a λg c t d e f _=>b g c t _ d e f
def kq(w:AK)(B:Nat)(u:Aq)(a:List TD):Prop:=
 ∃ps:List (Aq×TD),ps.map (·.2)=a/\w.ownsRow B 45 3 u ps (ps.flatMap tdC)/\∀p∈ps,RsW w B p.1 p.2.res
def kq.keep{a:List TD}(h:kq w B u a)(i:(w:Nat)<=v)(f:∀(g:Nat)(c:Array Aq)(t:E1)(z:Nat×Nat),B<=g->(t=53\/t=56\/u.ownBlock=some g)->w.heap[g]?=some (.cells c t z)->v.heap[g]?=w.heap[g]?):kq v B u a:=by
 obtain⟨ps,j,d,k⟩:=h;exact⟨ps,j,bn d λg b=>by
  obtain⟨c,z,e⟩:=dF d b;exact f g c _ z (ak d b).1 (.inr (.inr b)) e,λp l=>(k p l).keepC i λg c t z b m e=>f g c t z b (m.elim .inl λh=>.inr (.inl h)) e⟩
def kq.more{k:Aq}{h:TD}{ps:List (Aq×TD)}{o:Obj}(r:w.ownsRow B 45 3 u ps (ps.flatMap tdC))(x:∀p∈ps,RsW w B p.1 p.2.res)(y:cY w B s h.res)
 (a:v.ownsRow B 45 3 k (ps+1) (ps.flatMap tdC++tdC (s,h)))(l:(w.alloc o).grownBy v u.ownBlock):kq v B k (ps.map (·.2)++[h]):=by
 have m:∀(g:Nat)(c:Array Aq)(t:E1)(z:Nat×Nat),B<=g->(t=53\/t=56)->w.heap[g]?=some (.cells c t z)->v.heap[g]?=w.heap[g]?:=λg c t z _ i q=>by
  have j:=(Zq.1 q).1;refine(l.block g sO λe=>?_).trans (aap _ _ _ j);obtain⟨A,C,b⟩:=dF r e.symm;rw[q]at b;cases b;rcases i with i|i<;>exact absurd i dC
 have d:(w:Nat)<=v:=by have:=l.size;simp at this;omega
 refine⟨ps++[(s,h)],sM,by rw[abU,acZ];simpa using a,λp f=>?_⟩;rcases aci.1 f with f|f
 .exact(x p f).keepC d m
 obtain rfl:=aag.1 f;exact(RsW.of y).keepC d m
def MK:(prog.info? 45).map (λi=>(i.zero,i.size,i.bytes))=some (some (.agg #[.slice none 0 0,.bool false,qB 0]),3,32):=by kernel_rfl
def ON:Code:=match gn with|.seq _ c=>c|_=>.skip
def AA{x0 x1 x2 x5 x9 aa ab ac ad ae af ag ah ai aj al am an ao ap aq ar cJ au av aw ax ay az aA aB aE aF aG aH aI aJ aK aL aM aN aO aP aR aS aT aU aV aW aX aY aZ a0 a1 a2 a3 a4 a5 a6 a7 a8 a9 bb bc bd be bf bg bi bj bk bm bo bp bq br bs bt bu bv bw bx bz bA bB bC bD bE bF bG bH bI bJ bK bL bM bN bO bP bQ bS bT bU bV bW bX bZ b0 b1 b2 b3 b4 b5 b6 b7 b8 b9 ca cc cd ce cf cg ch ci cj ck cl cm cn co cp cq cr cs ct cu cv cw cx cy cz cA cC cD cE cG cH cI:Aq}{ds:List Deferred}{Q:Exit->Act->AK->Prop}(E S a B:Nat)(u4:Aq)(A A':Option Es)(cap L:Nat)(M:List (List LR))(hl:(M:Nat)<=1048576)(hll:∀rs,rs∈M->(rs:Nat)<=1048576)
 (hA:bh w A 5 (M.map (·.map gvC)))(hA':bh w A' 5 (M.map (·.map gvC)))(hS:cF w S 2 (.slice A' M L))(hS1:S<w)(u:Aq)(b:TD)(hT0:cF w a 0 u)(hT:cF w a 1 (.bool true))(hT2:cF w a 2 (qB 0))(hTz:fZ w a 1)(Z:fZ w a 2)(r:a<w)
 (hE:cF w E 0 (iH b.fl))(hfl:b.fl<256)(T:List TD)(htl:(T:Nat)<=1048576)(hO:kq w B u4 T)(hu:cY w B u b.res)(j:w.shape? a=some (45,3))(hTu:∀g,u4.ownBlock=some g->g≠a)(hB:B<=w)
 (hQ:∀⦃y18 y19 y20 cM cR cS cW c2 c3 c4 c5 c6 c7 c8 db dd di dl dy d9 ea eb ec ed eg eh ej ek el em ep eq er et eu ev ew ex ez eB eC:Aq⦄(W:AK) (v4:Aq),aQ w (λk=>k=a\/u4.ownBlock=some k) w W->kq W B v4 (T++[b])->Q .normal ⟨(x0::x1::x2::pT E 0::v4::x5::pT S 0::pT a 0::.slice A M cap::x9::aa::ab::ac::ad::ae::af::ag::ah::y18::y19::y20::am::an::ao::ap::aq::ar::cJ::au::av::aw::ax::ay::az::aA::aB::aE::aF::aG::aH::aI::aJ::aK::aL::aM::aN::aO::aP::aR::aS::aT::aU::aV::aW::aX::aY::aZ::a0::a1::a2::a3::a4::a5::a6::a7::a8::a9::bb::bc::bd::be::bf::bg::bi::bj::bk::bm::bo::bp::bq::br::bs::bt::bu::bv::bw::bx::bz::bA::bB::bC::bD::bE::bF::bG::bH::bI::bJ::bK::bL::bM::bN::bO::bP::bQ::bS::bT::bU::bV::bW::bX::bZ::b0::b1::cM::cR::cS::cW::c2::c3::c4::c5::c6::c7::c8::db::dd::di::dl::dy::d9::ea::eb::ec::ed::eg::eh::ej::ek::el::em::ep::eq::er::et::eu::ev::ew::ex::ez::eB::eC::cH::cI::[]).toArray,ds⟩ W):
 ON.wp prog Q ⟨(x0::x1::x2::pT E 0::u4::x5::pT S 0::pT a 0::.slice A M cap::x9::aa::ab::ac::ad::ae::af::ag::ah::ai::aj::al::am::an::ao::ap::aq::ar::cJ::au::av::aw::ax::ay::az::aA::aB::aE::aF::aG::aH::aI::aJ::aK::aL::aM::aN::aO::aP::aR::aS::aT::aU::aV::aW::aX::aY::aZ::a0::a1::a2::a3::a4::a5::a6::a7::a8::a9::bb::bc::bd::be::bf::bg::bi::bj::bk::bm::bo::bp::bq::br::bs::bt::bu::bv::bw::bx::bz::bA::bB::bC::bD::bE::bF::bG::bH::bI::bJ::bK::bL::bM::bN::bO::bP::bQ::bS::bT::bU::bV::bW::bX::bZ::b0::b1::b2::b3::b4::b5::b6::b7::b8::b9::ca::cc::cd::ce::cf::cg::ch::ci::cj::ck::cl::cm::cn::co::cp::cq::cr::cs::ct::cu::cv::cw::cx::cy::cz::cA::cC::cD::cE::cG::cH::cI::[]).toArray,ds⟩ w:=by
 replace hQ:=Zp hQ;obtain⟨i1,hi',hy0,hy1,hy2⟩:=abq MK;obtain⟨ps,rfl,x,ho2⟩:=hO;rw[aao]at htl;obtain⟨uA,uc,rfl⟩:=ba x;obtain⟨ux,y,rfl⟩:∃A c,u=.slice A b.res c:=by
  obtain⟨ss,Y,_⟩:=hu;exact ba Y
 have hEl:=py hE;simp only at hEl;conv=>arg 2;whnf
 refine abZ ?_;intro K1 Y;replace Y:=Zp Y;refine Nz S a A A' cap L M hl hll hA hA' hS hS1 hT hTz r ?_;intros;rename_i W f;have hs1:=f.size;have hEW:cF W E 0 (iH b.fl):=(f.cell (p:=aD E 0) hEl).trans hE;have N:cF W a 0 (.slice ux b.res y):=(f.cell (p:=aD a 0) r).trans hT0;have hTW:cF W a 1 (.bool true):=(f.cell (p:=aD a 1) r).trans hT;have O:cF W a 2 (qB 0):=(f.cell (p:=aD a 2) r).trans hT2;have C:fZ W a 2:=(f.frozen (p:=aD a 2) r).trans Z;have ho1W:=bY x f;have l:=GS E b.fl hfl W hEW;replace l:=Zp l;refine Y.out _ _ ?_;refine abZ ?_;intro K2 U;replace U:=Zp U;have m:a<W:=oM
 go_wp2_with(go_at_call 41;refine l.out.mono ?_;rintro e q⟨rfl,i⟩;have P:cF q a 2 (qB 0):=(i.cell (p:=aD a 2) m).trans O;have V:fZ q a 2:=(i.frozen (p:=aD a 2) m).trans C)
 have hs2:=i.size;have hg0:cF (q.setCell (aD a 2) (qB b.fl)) a 0 (.slice ux b.res y):=by
  have h:=(i.cell (p:=aD a 0) m).trans N;simp[go_sem,h]
 have hg1:cF (q.setCell (aD a 2) (qB b.fl)) a 1 (.bool true):=by
  have h:=(i.cell (p:=aD a 1) m).trans hTW;simp[go_sem,h]
 have hg2:cF (q.setCell (aD a 2) (qB b.fl)) a 2 (qB b.fl):=by simp[go_sem,P]
 have X:aQ w (λk=>k=a\/(Value.slice uA ps uc).ownBlock=some k) w (q.setCell (aD a 2) (qB b.fl)):=((aQ.of f).trans (.of (i.mono hs1))).set (.inl (.inl rfl)) 2 _;have I:∀(g:Nat)(c:Array Aq)(t:E1)(z:Nat×Nat),(t=53\/t=56\/g≠a)->w.heap[g]?=some (.cells c t z)->(q.setCell (aD a 2) (qB b.fl)).heap[g]?=w.heap[g]?:=λg c t z D J=>by
  have U:=(Zq.1 J).1;have hne:g≠a:=by
   rcases D with D|D|D
   .rintro rfl;unfold World.shape? at j;rw[J]at j;simp only[Zt,abF]at j;exact absurd (D.symm.trans j.1) dC
   .rintro rfl;unfold World.shape? at j;rw[J]at j;simp only[Zt,abF]at j;exact absurd (D.symm.trans j.1) dC
   exact D
  exact(fL hne).trans ((i.block g oM).trans (f.block g U))
 have F:(q.setCell (aD a 2) (qB b.fl)).ownsRow B 45 3 (.slice uA ps uc) ps (ps.flatMap tdC):=bn x λg hg=>by
  obtain⟨c,z,J⟩:=dF x hg;exact I g c _ z (.inr (.inr (hTu g hg))) J
 have o:∀p∈ps,RsW (q.setCell (aD a 2) (qB b.fl)) B p.1 p.2.res:=λp hp=>(ho2 p hp).keepC (by have:=i.size;have:=f.size;simp[World.setCell];omega) λg c t z _ D J=>I g c t z (D.elim .inl λh=>.inr (.inl h)) J;have K:cY (q.setCell (aD a 2) (qB b.fl)) B (.slice ux b.res y) b.res:=hu.keepC λg c t z _ D J=>I g c t z (D.elim .inl λh=>.inr (.inl h)) J;have G:((q.setCell (aD a 2) (qB b.fl)):Nat)=q:=by simp[World.setCell]
 have hub:∀g,(Value.slice uA ps uc).ownBlock=some g->B<=g/\g<(w:Nat):=λg hg=>ak x hg;generalize q.setCell (aD a 2) (qB b.fl)=w3 at hg0 hg1 hg2 X F o K G⊢;replace G:=Zp G;replace o:=Zp o;replace K:=Zp K;clear P V i I N hTW O C ho1W l hEW;refine U.out _ _ ?_
 go_wp2_with(at_builtin;refine wpList_append_own_at _ rfl (.tmp 148) (.tmp 150) 38 rfl B 45 i1 _ 3 32 underlying38 hi' hy0 hy1 hy2 rfl dC _ ps (ps.flatMap tdC) rfl (F.alloc _) (aD w3 0) 1 1 (tdC (.slice ux b.res y,b)) rfl rfl ?c1 ?d2 ?d3 ?d4 ?d5 ?_)
 all_goals replace G:=G.out
 case c1=>exact hZ (tdC (.slice ux b.res y,b))
 case d2=>intro v hv;simp[tdC]at hv;rcases hv with rfl|rfl|rfl<;>rfl
 case d3=>simp only[maxLen];omega
 case d4=>omega
 case d5=>simp;omega
 intro v' w6 H d _ hat6;have hO6:kq w6 B v' (ps.map (·.2)++[b]):=kq.more F o.out K.out H d;have hb6:aQ w (λk=>k=a\/(Value.slice uA ps uc).ownBlock=some k) w w6:=X.trans ⟨d.os,d.tape,d.output,by have:=d.size;simp at this;omega,λk Y U=>(d.block k sO λe=>U (.inr e.symm)).trans (aap _ _ _ oM)⟩;have R:=Zp (And.intro hb6 hO6);clear hb6 hO6 d H hat6 X hg0 hg1 hg2
 go_wp2
 exact hQ.out w6 _ R.out.1 R.out.2
end
section
open Go.Shelf
variable{Q:Exit->Act->AK->Prop}{a0 a1 a2 a3 a4 a5 a6 a9 aJ aM aR aS aU aa ab ac ad ag am ao ap ar av aw b0 b1 b2 b3 b4 b5 b6 b7 b8 bB bM bS bb bc bd be bf bg bi bm bo bp bs bt bv bw cC cD cM ca cc cd ce cg ch ci cj cl cm cp cq cr cs ct cv cw cx cy x0 x1 x2 x5 x9:Aq}{ds:List Deferred}{w:AK}{x:LR->Nat×Nat×Bool}
attribute[local go_sem] Oper.semAt_some wZ
def cY.nil(w:AK)(B:Nat):cY w B (.slice none 0 0) []:=⟨[],⟨rfl,.inl ⟨rfl,rfl⟩⟩,λi a h=>by simp at h⟩
def tu{a b:Nat}(c:a<256)(d:b<256):a|||b<256:=ab2 (n:=8) c d
def sW(a:∀r,(x r).2.1<256):∀(l:List LR)(f:Nat),f<256->aW x f l<256
 |[],_,h=>h
 |r::l,f,h=>by
  rw[iq];refine sW a l _ (tu ?_ (a r));split
  .omega
  exact h
def oe(b:∀r,(x r).2.1<256){stop:Int}:∀(a:List (List LR))(f:Nat),f<256->dK x stop f a<256
 |[],_,h=>h
 |rs::a,f,h=>oe b a _ (sW b _ f h)
def xw{ae af ah aj al an aq au ax ay az aA aB aE aF aG aH aI aK aL aN aO aP aV aX aY aZ a7 a8 ba bj bk bn bq br bu bx bz bA bC bD bE bF bG bH bI bJ bK bL bN bO bP bQ bT bU bV bW bX bY bZ b9 cf ck cn cu cz cA cE cG cI cJ cL:Aq}(E S Tb B B₀:Nat)(j u8:Aq)(A':Option Es)(l:Nat)(d:List (List LR))(hl:(d:Nat)<=1048576)(C:∀rs,rs∈d->(rs:Nat)<=1048576)
 (q:cH w B₀ u8 gvC d)(F:∀W:AK,(∀b,b<E->W.heap[b]?=w.heap[b]?)->(w:Nat)<=W->bh W A' 5 (d.map (·.map gvC)))(hEB:E<B₀)(hE0:E≠0)(hTB:Tb<B₀)(hSB:S<B₀)(hTE:E<Tb)(hSE:E<S)(G:S≠Tb)(hB:B₀<=w)
 (x:LR->Nat×Nat×Bool)(hx:∀r,(x r).2.1<256)(f0:Nat)(hf0:f0<256)
 (hDo:∀rs,rs∈d->∀r,r∈rs->∀W,aT W->Bf prog 29 #[REC r.o r.m r.a r.b r.c] W (ai (x r).1 (x r).2.1 (x r).2.2 W))
 (stop:Int)(hS0:cF w S 0 (.bool false))(hS:cF w S 1 (iI stop))(hS2:cF w S 2 (.slice A' d l))(H:aT w)
 (hT0:cF w Tb 0 (.slice none 0 0))(hT:cF w Tb 1 (.bool true))(hT2:cF w Tb 2 (qB 0))(I:fZ w Tb 0)(hTz:fZ w Tb 1)(J:fZ w Tb 2)
 (hE:cF w E 0 (iH f0))(hEz:fZ w E 0)(i:List TD)(htl:(i:Nat)<=1048576)(hO:kq w B j i)(hEB1:E<B)(f:w.shape? Tb=some (45,3))(K:∀g,j.ownBlock=some g->g≠Tb)(L:∀g,j.ownBlock=some g->g≠E)(hBB:B<=w)
 (hQ:∀⦃y10 y11 y12 y15 y18 y19 y20 y36 y37 y38 y39 y40 y41 y42 y43 y44 y45 y46 y67 y98 y99 M N O P R T U V X Y Z co cR cS cW c1 c3 c4 c5 c6 c7 c8 db dd di dl dy d9 ea eb ec ed eg eh ej ek el em ep eq er et eu ev ew ex ez eB eC eE eM eN:Aq⦄(Ds:List Nat) (W:AK) (v4:Aq),jr w W Ds->aQ w (λk=>k=E\/k=Tb\/j.ownBlock=some k) w W->W (aD E 0)=some (iH (dK x stop f0 d:Nat))->W.frozen? (aD E 0)=false->
  kq W B v4 (i++[⟨told x stop d,dK x stop f0 d⟩])->Q .normal ⟨(x0::x1::x2::pT E 0::v4::x5::pT S 0::pT Tb 0::u8::x9::y10::y11::y12::ad::ae::y15::ag::ah::y18::y19::y20::an::ao::ap::aq::ar::cM::au::av::aw::ax::ay::az::aA::aB::aE::y36::y37::y38::y39::y40::y41::y42::y43::y44::y45::y46::aR::aS::aU::aV::aX::aY::aZ::a0::a1::a2::a3::a4::a5::a6::a7::a8::a9::ba::bb::bc::y67::be::bf::bg::bi::bj::bk::bm::bn::bo::bp::bq::br::bs::bt::bu::bv::bw::bx::bz::bA::bB::bC::bD::bE::bF::bG::bH::bI::bJ::bK::y98::y99::M::N::O::P::R::T::U::V::X::Y::Z::co::cR::cS::cW::c1::c3::c4::c5::c6::c7::c8::db::dd::di::dl::dy::d9::ea::eb::ec::ed::eg::eh::ej::ek::el::em::ep::eq::er::et::eu::ev::ew::ex::ez::eB::eC::eE::eM::eN::cJ::cL::[]).toArray,Ds.map mark++ds⟩ W):
 gn.wp prog Q ⟨(x0::x1::x2::pT E 0::j::x5::pT S 0::pT Tb 0::u8::x9::aa::ab::ac::ad::ae::af::ag::ah::aj::al::am::an::ao::ap::aq::ar::cM::au::av::aw::ax::ay::az::aA::aB::aE::aF::aG::aH::aI::aJ::aK::aL::aM::aN::aO::aP::aR::aS::aU::aV::aX::aY::aZ::a0::a1::a2::a3::a4::a5::a6::a7::a8::a9::ba::bb::bc::bd::be::bf::bg::bi::bj::bk::bm::bn::bo::bp::bq::br::bs::bt::bu::bv::bw::bx::bz::bA::bB::bC::bD::bE::bF::bG::bH::bI::bJ::bK::bL::bM::bN::bO::bP::bQ::bS::bT::bU::bV::bW::bX::bY::bZ::b0::b1::b2::b3::b4::b5::b6::b7::b8::b9::ca::cc::cd::ce::cf::cg::ch::ci::cj::ck::cl::cm::cn::cp::cq::cr::cs::ct::cu::cv::cw::cx::cy::cz::cA::cC::cD::cE::cG::cI::cJ::cL::[]).toArray,ds⟩ w:=by
 replace hQ:=Zp hQ;obtain⟨oA,oc,rfl,_⟩:=gq eG q;conv=>arg 2;whnf
 refine abZ ?_;intro K1 h1;replace h1:=Zp h1;refine(aek (n:=2)).1 ?_
 gi_wp2
 refine wpIn_loop_rounds (d+1) ?_;refine CB ds w E S Tb B₀ d _ d rfl hl C x hx f0 oM hDo q hEB hE0 hTB hSB oM oM G hB oM stop hS0 hS H _ _ _ _ _ _ _ _ _ _ _ _ _ _ _ _ _ _ _ _ _ _ _ _ _ _ _ _ _ _ _ _ _ _ _ _ _ _ _ _ _ _ _ _ _ _ _ _ _ _ _ _ _ _ _ _ _ _ _ _ _ _ _ _ _ _ _ _ _ _ _ _ _ _ _ _ _ _ _ _ _ _ _ _ _ _ _ _ _ _ _ _ _ _ _ _ _ _ _ _ _ _ _ _ _ _ _ _ _ _ _ _ _ _ _ _ _ _ _ ?_ d 0 _ _ _ _ _ _ _ _ _ _ _ _ _ _ _ _ _ _ _ _ _ _ _ _ _ _ _ _ _ [] w (.slice none 0 0) oM ⟨List.nodup_nil,λD h=>by simp at h⟩ (.refl _) (by simpa[dK]using hE) hEz hT0 I hT hTz (by simpa[told]using cY.nil w _) ⟨rfl,λ_ _=>⟨rfl,rfl⟩⟩;intros;rename_i Ds W u' g1 s g3 g4 g5 g6 g7 g8 g9 u;have eS:=s.size;have hkW:∀g,B₀<=g->g<(w:Nat)->W.heap[g]?=w.heap[g]?:=λg h1 h2=>s.block g h2 (λe=>e.elim oM oM);obtain⟨A2,c2,e2,hA⟩:=gq eG (q.keep hkW);obtain⟨rfl,rfl⟩:oA=A2/\oc=c2:=by simpa using e2
 have hA':=F W (λb hb=>s.block b oM (λe=>e.elim oM oM)) eS;have eW:=(s.cell (p:=aD S 2) (show S<_ by omega) (λe=>e.elim (show¬S=E by omega) G)).trans hS2;have e0:=(u.2 2 oM).1.trans hT2;have v:=(u.2 2 oM).2.trans J;have hOW:kq W B j i:=hO.keep s.size λg c t z hBg y hc=>s.block g (Zq.1 hc).1 λe=>by
  rcases e with rfl|rfl
  .omega
  unfold World.shape? at f;rw[hc]at f;simp only[Zt,abF]at f;rcases y with y|y|y
  .exact absurd (y.symm.trans f.1) dC
  .exact absurd (y.symm.trans f.1) dC
  exact K _ y rfl
 have A:dK x stop f0 d<256:=oe hx d f0 hf0;refine h1.out _ _ ?_;refine AA E S Tb B j oA A' oc l d hl C hA hA' eW oM u' ⟨told x stop d,dK x stop f0 d⟩ g5 g7 e0 g8 v oM g3 A i htl hOW (g9.base hBB) (u.1.trans f) K oM ?_;intros;rename_i W2 v4 k1 k2;have hn:∀k,(k=Tb\/j.ownBlock=some k)->k<(w:Nat)->k=E\/k=Tb\/j.ownBlock=some k:=λk h _=>.inr h;refine hQ.out Ds W2 v4 (g1.keep λD hD hd=>(k1.block D (Zq.1 hd).1 (by
  rintro(e|e)
  .omega
  obtain⟨ps,_,h5,_⟩:=hO;have:=(ak h5 e).2;omega)).trans hd) ((s.mono (Zo _) λk _ h=>h.elim .inl λh=>.inr (.inl h)).trans (k1.mono eS λk _ h=>.inr h)) ?_ ?_ k2
 .exact(k1.cell (p:=aD E 0) (show E<_ by omega) (λe=>e.elim (show¬E=Tb by omega) λe=>L _ e rfl)).trans g3
 exact(k1.frozen (p:=aD E 0) (show E<_ by omega) (λe=>e.elim (show¬E=Tb by omega) λe=>L _ e rfl)).trans g4
def xx{ae af ah aj al an aq au ax ay az aA aB aE aF aG aH aI aK aL aN aO aP aV aX aY aZ a7 a8 ba bj bk bn bq br bu bx bz bA bC bD bE bF bG bH bI bJ bK bL bN bO bP bQ bT bU bV bW bX bY bZ b9 cf ck cn cu cz cA cE cG cI cJ cL:Aq}(E S a B B₀:Nat)(h u8:Aq)(A':Option Es)(e:Nat)(b:List (List LR))(hl:(b:Nat)<=1048576)(i:∀rs,rs∈b->(rs:Nat)<=1048576)
 (j:cH w B₀ u8 gvC b)(l:bh w A' 5 (b.map (·.map gvC)))
 (hS0:cF w S 0 (.bool true))(m:cF w S 2 (.slice A' (b:Nat) e))
 (u:Aq)(o:TD)(p:cF w a 0 u)(hT:cF w a 1 (.bool true))(q:cF w a 2 (qB 0))(r:fZ w a 1)(f:fZ w a 2)
 (hE:cF w E 0 (iH o.fl))(hfl:o.fl<256)(c:List TD)(htl:(c:Nat)<=1048576)(hO:kq w B h c)(hu:cY w B u o.res)(hTt:w.shape? a=some (45,3))(hTu:∀g,h.ownBlock=some g->g≠a)(hBB:B<=(w:Nat))
 (hQ:∀⦃y10 y11 y12 y15 y18 y19 y20 y36 y37 y38 y39 y40 y41 y42 y43 y44 y45 y46 y67 y98 y99 s t v y z A C D F G H I J K L M N O P R T U V X Y Z cR cS cW c1 c2 c3 c4 c5 c6 c7 c8 db dd di dl dy d9 ea eb ec ed eg eh ej ek el:Aq⦄(W:AK) (v4:Aq),aQ (w:Nat) (λk=>k=a\/h.ownBlock=some k) w W->
  kq W B v4 (c++[o])->Q .normal ⟨(x0::x1::x2::pT E 0::v4::x5::pT S 0::pT a 0::u8::x9::y10::y11::y12::ad::ae::y15::ag::ah::y18::y19::y20::an::ao::ap::aq::ar::cM::au::av::aw::ax::ay::az::aA::aB::aE::y36::y37::y38::y39::y40::y41::y42::y43::y44::y45::y46::aR::aS::aU::aV::aX::aY::aZ::a0::a1::a2::a3::a4::a5::a6::a7::a8::a9::ba::bb::bc::y67::be::bf::bg::bi::bj::bk::bm::bn::bo::bp::bq::br::bs::bt::bu::bv::bw::bx::bz::bA::bB::bC::bD::bE::bF::bG::bH::bI::bJ::bK::y98::y99::s::t::v::y::z::A::C::D::F::G::H::I::J::K::L::M::N::O::P::R::T::U::V::X::Y::Z::cR::cS::cW::c1::c2::c3::c4::c5::c6::c7::c8::db::dd::di::dl::dy::d9::ea::eb::ec::ed::eg::eh::ej::ek::el::cJ::cL::[]).toArray,ds⟩ W):
 gn.wp prog Q ⟨(x0::x1::x2::pT E 0::h::x5::pT S 0::pT a 0::u8::x9::aa::ab::ac::ad::ae::af::ag::ah::aj::al::am::an::ao::ap::aq::ar::cM::au::av::aw::ax::ay::az::aA::aB::aE::aF::aG::aH::aI::aJ::aK::aL::aM::aN::aO::aP::aR::aS::aU::aV::aX::aY::aZ::a0::a1::a2::a3::a4::a5::a6::a7::a8::a9::ba::bb::bc::bd::be::bf::bg::bi::bj::bk::bm::bn::bo::bp::bq::br::bs::bt::bu::bv::bw::bx::bz::bA::bB::bC::bD::bE::bF::bG::bH::bI::bJ::bK::bL::bM::bN::bO::bP::bQ::bS::bT::bU::bV::bW::bX::bY::bZ::b0::b1::b2::b3::b4::b5::b6::b7::b8::b9::ca::cc::cd::ce::cf::cg::ch::ci::cj::ck::cl::cm::cn::cp::cq::cr::cs::ct::cu::cv::cw::cx::cy::cz::cA::cC::cD::cE::cG::cI::cJ::cL::[]).toArray,ds⟩ w:=by
 replace hQ:=Zp hQ;obtain⟨oA,oc,rfl,hA⟩:=gq eG j;have em:=py hS0;have ep:=py hT;simp only at em ep;have d:∀(eq er et eu ev ew ex ez eB:Aq),ON.wp prog Q ⟨(x0::x1::x2::pT E 0::h::x5::pT S 0::pT a 0::.slice oA (b:Nat) oc::x9::eq::ab::ac::ad::ae::af::ag::ah::aj::al::am::an::ao::ap::aq::ar::cM::au::av::aw::ax::ay::az::aA::aB::aE::er::et::eu::ev::ew::ex::ez::eB::aN::aO::aP::aR::aS::aU::aV::aX::aY::aZ::a0::a1::a2::a3::a4::a5::a6::a7::a8::a9::ba::bb::bc::bd::be::bf::bg::bi::bj::bk::bm::bn::bo::bp::bq::br::bs::bt::bu::bv::bw::bx::bz::bA::bB::bC::bD::bE::bF::bG::bH::bI::bJ::bK::bL::bM::bN::bO::bP::bQ::bS::bT::bU::bV::bW::bX::bY::bZ::b0::b1::b2::b3::b4::b5::b6::b7::b8::b9::ca::cc::cd::ce::cf::cg::ch::ci::cj::ck::cl::cm::cn::cp::cq::cr::cs::ct::cu::cv::cw::cx::cy::cz::cA::cC::cD::cE::cG::cI::cJ::cL::[]).toArray,ds⟩ w:=λeq er et eu ev ew ex ez eB=>by
  refine AA E S a B h oA A' oc e b hl i hA l m em u o p hT q r f ep hE hfl c htl hO hu hTt hTu hBB ?_;intros;rename_i W2 v4 k1 k2;exact hQ.out W2 v4 k1 k2
 replace d:=Zp d;conv=>arg 2;whnf
 refine abZ ?_;intro K1 h1;replace h1:=Zp h1;cases b with
 |nil=>
  go_wp2
  refine wp_loop_once ?_
  go_wp2
  refine h1.out _ _ ?_;exact d.out _ _ _ _ _ _ _ _ _
 |cons l0 b=>
  obtain⟨⟨cb,co,csp⟩,A2,cap2,rfl,eC,eE,hc,_⟩:=hA 0 (l0.map gvC) rfl;simp only at eC eE hc;subst eC;rw[adn]at hc;have hpos:(0:Int)<((l0::b):Nat):=sM;have ead:(aD cb co:Es).add 0=aD cb co:=by simp[Addr.add]
  generalize hn:((l0::b):Nat)=n at*;clear hA j l hl i hO hu hE p hT q r f m;have hpos':0<n:=oM
  go_wp2
  refine wp_loop_once ?_
  go_wp2
  refine h1.out _ _ ?_;exact d.out _ _ _ _ _ _ _ _ _
end
section
open Go.Shelf
structure Stp where
 batch:Bool
 stop:Int
 ls:List (List LR)
def Oa(w:AK)(A:Option Es)(c:List Stp):Prop:=
 ∀(i:Nat)(s:Stp),c[i]?=s->∃a A' b,A=some a/\a.spot=none/\w (aD a.block (a.off+i*3))=some (.bool s.batch)/\w (aD a.block (a.off+i*3+1))=iI s.stop/\w (aD a.block (a.off+i*3+2))=some (.slice A' s.ls b)/\bh w A' 5 (s.ls.map (·.map gvC))
def IW:Code:=match mj with|.seq c _=>c|_=>.skip
def IS:Code:=match mj with|.seq _ (.seq c _)=>c|_=>.skip
def IP:Code:=match mj with|.seq _ (.seq _ (.seq c _))=>c|_=>.skip
def IL:Code:=match mj with|.seq _ (.seq _ (.seq _ (.seq (.seq c _) _)))=>c|_=>.skip
def zt:Code:=match xO with|.seq c _=>c|_=>.skip
def tj:Code:=match xO with|.seq _ (.seq _ (.seq _ c))=>c|_=>.skip
def DN:Code:=match nM with|.seq c _=>c|_=>.skip
def DM:Code:=match nM with|.seq _ (.seq c _)=>c|_=>.skip
def DL:Code:=match nM with|.seq _ (.seq _ (.seq c _))=>c|_=>.skip
def EN:Code:=match nM with|.seq _ (.seq _ (.seq _ (.seq c _)))=>c|_=>.skip
def IH:Code:=match EN with|.seq c _=>c|_=>.skip
def pj:Code:=match mj with|.seq _ (.seq _ (.seq _ (.seq _ c)))=>c|_=>.skip
end
end Go.Proofs.YtldmbneckcjonaaDoor
