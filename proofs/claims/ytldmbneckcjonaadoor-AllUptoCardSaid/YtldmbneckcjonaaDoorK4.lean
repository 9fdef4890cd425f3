/- A part of the proof. -/
import Derived.Test.YtldmbneckcjonaaDoorK3
set_option linter.defProp false
set_option linter.unusedVariables false
set_option linter.unusedSimpArgs false
set_option maxRecDepth 100000
set_option maxHeartbeats 8000000
noncomputable section
namespace Go.Proofs.YtldmbneckcjonaaDoor
open Go renaming World->AK,Value->Aq,Goroutine->Ar,Calls->Bf,undef->C0,Addr->Es,TypeId->E1,Program->E2,stepG->KC,Frame->K0,execOp->Lk,bits->Na,Event->Nc
open Go.RowKit renaming Below->Np,wrap64->Nq
open Go.Proofs.Tryd
section
open Go.RowKit
def NB.zero{W:AK}:NB (aC W #[.bool false,iI 0,iU 0,iU 0,iU 0,iU 0,.bool false] 182) W false 0 0 false:=by
 have:=NB.new (W:=W) (n:=false) (e:=0) (s:=0) (l:=false);have e:NO false 0 0 false=.cells #[.bool false,iI 0,iU 0,iU 0,iU 0,iU 0,.bool false] 182:=by simp only[NO,mA];rfl
 rw[e]at this;exact this
section
variable{B g:Nat}{a W:AK}
def nL(h:Np B a W)(b:B<=g)(i:Nat)(v:Aq):Np B a (W.setCell (aD g i) v):=h.setCell (p:=aD g i) b v
def Bb(h:Np B a W)(b:B<=g)(c d e f:Aq):Np B a ((((W.setCell (aD g 2) c).setCell (aD g 3) d).setCell (aD g 4) e).setCell (aD g 5) f):=nL (nL (nL (nL h b _ _) b _ _) b _ _) b _ _
def EH(h:Np B a W)(b:B<=g)(c d e f i j k:Aq):Np B a (sC7 W g c d e f i j k):=nL (Bb (nL (nL h b _ _) b _ _) b _ _ _ _) b _ _
end
def PB(w:AK)(n1:Bool)(e1:Int)(s1:Nat)(l1:Bool)(n2:Bool)(e2:Int)(s2:Nat)(l2:Bool)(W:AK):Prop:=
 NB W w n1 e1 s1 l1/\NB W (w+1) n2 e2 s2 l2/\NB W (w+1+1) false 0 0 false/\Np w w W
section
variable{w W W1:AK}{n1 n2:Bool}{e1 e2:Int}{s1 s2:Nat}{l1 l2:Bool}
def PB.call(h:PB w n1 e1 s1 l1 n2 e2 s2 l2 W)(a:Np W W W1):PB w n1 e1 s1 l1 n2 e2 s2 l2 W1:=
 ⟨h.1.call a,h.2.1.call a,h.2.2.1.call a,h.2.2.2.trans (a.mono h.2.2.2.size)⟩
def PB.drew(h:PB w n1 e1 s1 l1 n2 e2 s2 l2 W):PB w n1 e1 s1 l1 n2 e2 s2 l2 W.drew:=⟨h.1,h.2.1,h.2.2.1,h.2.2.2.drew⟩
def PB.start:PB w n1 e1 s1 l1 n2 e2 s2 l2 (aC ((w.alloc (NO n1 e1 s1 l1)).alloc (NO n2 e2 s2 l2)) #[.bool false,iI 0,iU 0,iU 0,iU 0,iU 0,.bool false] 182):=by
 refine⟨(NB.new.alloc _).alloc _,?_,?_,(((Zx _ w).alloc sM _).alloc sM _).alloc sO _⟩
 .have:=NB.new (W:=w.alloc (NO n1 e1 s1 l1)) (n:=n2) (e:=e2) (s:=s2) (l:=l2);have e:((w.alloc (NO n1 e1 s1 l1)):Nat)=w+1:=sM;rw[e]at this;exact this.alloc _
 have:=NB.zero (W:=(w.alloc (NO n1 e1 s1 l1)).alloc (NO n2 e2 s2 l2));have e:(((w.alloc (NO n1 e1 s1 l1)).alloc (NO n2 e2 s2 l2)):Nat)=w+1+1:=sM;rw[e]at this;exact this
end
def N9(a:Nat)(b:au a)(w:AK):Bf prog 162 #[W4 a,.agg #[iU 1,iU 0,iU 0,iU 0]] w λe w'=>e=.returned (.tuple #[W4 (jW a 1),.bool (decide (a<1))])/\Np w w w':=by
 have c:au 1:=by unfold au;decide
 have:=nq a 1 b c w;have e:W4 1=.agg #[iU 1,iU 0,iU 0,iU 0]:=lK (show 1<18446744073709551616 by decide);rw[e]at this;exact this
attribute[local go_sem] AF
def Mj(na nb n1 n2:Bool)(ea eb e1 e2 ta tb:Int)(G H s1 s2:Nat)(hsa:au G)(hsb:au H)(za:decide (0=G)=false)(zb:decide (0=H)=false)
 (hta:IntKind.i64.wrap (ea+(bl G:Int))=ta)(htb:IntKind.i64.wrap (eb+(bl H:Int))=tb)
 (hsw:Hid ((ta<tb/\n1=nb/\e1=eb/\s1=H/\n2=na/\e2=ea/\s2=G)\/(¬ta<tb/\n1=na/\e1=ea/\s1=G/\n2=nb/\e2=eb/\s2=H)))
 (hs1:au s1)(k:Nat)(hk:Nq (250-(bl s1:Int))=k)(hkb:k<251)(A:Nat)(hA:fO s1 k=A)(uA:au A)(E:Int)(hE:IntKind.i64.wrap (e1-k)=E)(hs2:au s2)(D:Int)(hD:Nq (E-e2)=D)
 (B:Nat)(lf:Bool)(uB:au B)(nD:Int)(hnD:Nq (-D)=nD)(hB:Hid ((0<D/\B=s2/2^D.toNat/\lf=decide (s2%2^D.toNat≠0))\/(¬0<D/\0<=nD/\nD<100000/\B=fO s2 nD.toNat/\lf=false)))
 (nr:Bool)(sr:Nat)(lr:Bool)
 (hR:Hid ((n1=n2/\au (A+B)/\nr=n1/\sr=A+B/\lr=lf)\/(n1≠n2/\A<B/\nr=n2/\sr=jW B A/\lr=false)\/(n1≠n2/\¬A<B/\lf/\nr=n1/\sr=jW (jW A B) 1/\lr)\/(n1≠n2/\¬A<B/\lf=false/\nr=n1/\sr=jW A B/\lr=false)))
 (w:AK):
 Bf prog 148 #[NV na ea G false,NV nb eb H false] w λe w'=>e=.returned (NV nr E sr lr)/\Np w w w':=by
 have La:=Zp (λW=>lh G hsa W);have Lb:=Zp (λW=>lh H hsb W);have c:=PB.start (w:=w) (n1:=na) (e1:=ea) (s1:=G) (l1:=false) (n2:=nb) (e2:=eb) (s2:=H) (l2:=false);go_enter func148,ntmps148;go_upto_region 6 with(fail);go_cut[31] (λs wx=>s=.bool (decide (ta<tb))/\PB w na ea G false nb eb H false wx)
 case first=>
  go_region_held3(λw'=>(w' (aD w 0)=Value.bool (na)/\w' (aD w 1)=some (Value.int .i64 (ea))/\w' (aD w 2)=some (Value.int .u64 (wd 0 (G)))/\w' (aD w 3)=some (Value.int .u64 (wd 1 (G)))/\w' (aD w 4)=some (Value.int .u64 (wd 2 (G)))/\w' (aD w 5)=some (Value.int .u64 (wd 3 (G)))/\w' (aD w 6)=Value.bool (false))/\(w' (aD (w+1) 0)=Value.bool (nb)/\w' (aD (w+1) 1)=some (Value.int .i64 (eb))/\w' (aD (w+1) 2)=some (Value.int .u64 (wd 0 (H)))/\w' (aD (w+1) 3)=some (Value.int .u64 (wd 1 (H)))/\w' (aD (w+1) 4)=some (Value.int .u64 (wd 2 (H)))/\w' (aD (w+1) 5)=some (Value.int .u64 (wd 3 (H)))/\w' (aD (w+1) 6)=Value.bool (false)))
   (first
    |exact⟨hP2.1.1,hP2.2.1.1⟩
    |exact⟨hP1.1.1,hP1.2.1.1⟩
    |exact⟨c.1.1,c.2.1.1⟩
    |go_keep)
   (first
    |(go_at_call_of 152 (Value.int IntKind.u64 (wd 0 G));refine gB (La.out _) λw1 hb1=>?_;have hP1:PB w na ea G false nb eb H false w1:=PB.call (by first|exact c.drew|exact c) hb1)
    |(go_at_call_of 152 (Value.int IntKind.u64 (wd 0 H));refine gB (Lb.out _) λw2 hb2=>?_;have hP2:PB w na ea G false nb eb H false w2:=PB.call (by first|exact hP1.drew|exact hP1) hb2))
  all_goals(go_wp2_with fail;go_meet;exact⟨rfl,by first|exact hP2.drew|exact hP2⟩)
 obtain⟨rfl,c⟩:=hcut;clear La Lb za zb hta htb
 go_upto_if 31 with(fail)
 go_cut[] (PB w n1 e1 s1 false n2 e2 s2 false)
 case first=>
  obtain⟨p0,p1,p2,X⟩:=c;have p0':=p0;have p1':=p1;obtain⟨⟨Y,Z,x2,x3,x4,x5,x6⟩,f,g,i,j,l,m,n⟩:=p0';obtain⟨⟨y0,y1,y2,y3,y4,y5,y6⟩,I,J,K,L,M,N,O⟩:=p1';rcases hsw.out with⟨h,rfl,rfl,rfl,rfl,rfl,rfl⟩|⟨h,rfl,rfl,rfl,rfl,rfl,rfl⟩
  .clear hsw hB
   go_wp2_with fail
   go_meet;refine⟨(p0.put _ _ _ _).farP oM _ _ _ _ _ _ _,(p1.farP oM _ _ _ _ _ _ _).put _ _ _ _,(p2.farP oM _ _ _ _ _ _ _).farP oM _ _ _ _ _ _ _,?_⟩;exact cB
  clear hsw hB
  go_wp2_with fail
  go_meet;exact⟨p0,p1,p2,X⟩
 replace c:=hcut;clear hcut hsw;have L1:=Zp (λW=>lh s1 hs1 W);have S1:=Zp (λW=>da s1 hs1 k oM oM W);rw[aaB,hA]at S1;have q0:=c.1;obtain⟨⟨Y,Z,x2,x3,x4,x5,x6⟩,f,g,i,j,l,m,n⟩:=q0;go_upto_region 9 with(go_at_call 152;refine gB (L1.out _) λw3 hb3=>?_);replace c:=c.call hb3;clear hb3 Y Z x2 x3 x4 x5 x6 f g i j l m n;have q0:=c.1;obtain⟨⟨Y,Z,x2,x3,x4,x5,x6⟩,f,g,i,j,l,m,n⟩:=q0;simp only[hk];go_cut[] (PB w n1 E A false n2 e2 s2 false)
 case first=>
  clear hB
  go_region_with(go_at_call 145;refine gB (S1.out _) λw4 hb4=>?_;have b:PB w n1 e1 s1 false n2 e2 s2 false w4:=PB.call (by first|exact c.drew|exact c) hb4;have z:=b.1;obtain⟨⟨z0,z1,z2,z3,z4,z5,z6⟩,q,r,t,u,v,x,y⟩:=z)
  all_goals
   go_wp2_with fail
   go_meet;refine⟨(b.1.setS A).setE E,(b.2.1.farS oM _ _ _ _).far (p:=⟨_,_,_⟩) (by show (w:Nat)≠w+1;omega) _,(b.2.2.1.farS oM _ _ _ _).far (p:=⟨_,_,_⟩) (by show (w:Nat)≠w+1+1;omega) _,?_⟩;have X:=b.2.2.2;exact cB
 replace c:=hcut;clear hcut Y Z x2 x3 x4 x5 x6 f g i j l m n L1 S1;have q0:=c.1;have q1:=c.2.1;obtain⟨⟨Y,Z,x2,x3,x4,x5,x6⟩,f,g,i,j,l,m,n⟩:=q0;obtain⟨⟨y0,y1,y2,y3,y4,y5,y6⟩,I,J,K,L,M,N,O⟩:=q1
 go_upto_if 54 with(fail)
 simp only[hD];go_cut[6] (λs wx=>s=.bool lf/\PB w n1 E A false n2 e2 B false wx)
 case first=>
  rcases hB.out with⟨h0,h1,h2⟩|⟨h0,h1,h2,h3,h4⟩
  .have S2:=Zp (λW=>yu s2 hs2 D oM W);rw[<-h1,<-h2]at S2;clear hB h1 h2
   go_wp2_with fail
   refine gB (S2.out _) λw4 hb4=>?_;have b:=c.call hb4;have r1:=b.2.1;obtain⟨⟨z0,z1,z2,z3,z4,z5,z6⟩,q,r,t,u,v,x,y⟩:=r1
   go_wp2_with fail
   go_meet;refine⟨rfl,b.1.farS oM _ _ _ _,b.2.1.setS B,b.2.2.1.farS oM _ _ _ _,?_⟩;have X:=b.2.2.2;exact cB
  have S2:=Zp (λW=>da s2 hs2 nD h1 oM W);rw[<-h3]at S2;subst h4;clear hB h3
  go_wp2_with fail
  refine gB (S2.out _) λw4 hb4=>?_;have b:=c.call hb4;have r1:=b.2.1;obtain⟨⟨z0,z1,z2,z3,z4,z5,z6⟩,q,r,t,u,v,x,y⟩:=r1
  go_wp2_with fail
  go_meet;refine⟨rfl,b.1.farS oM _ _ _ _,b.2.1.setS B,b.2.2.1.farS oM _ _ _ _,?_⟩;have X:=b.2.2.2;exact cB
 obtain⟨rfl,c⟩:=hcut;clear hB hD hnD hE hk Y Z x2 x3 x4 x5 x6 f g i j l m n y0 y1 y2 y3 y4 y5 y6 I J K L M N O;have q0:=c.1;have q1:=c.2.1;have q2:=c.2.2.1;obtain⟨⟨Y,Z,x2,x3,x4,x5,x6⟩,f,g,i,j,l,m,n⟩:=q0;obtain⟨⟨y0,y1,y2,y3,y4,y5,y6⟩,I,J,K,L,M,N,O⟩:=q1;obtain⟨⟨v0,v1,v2,v3,v4,v5,v6⟩,vf0,vf1,vf2,vf3,vf4,vf5,vf6⟩:=q2;by_cases hn:n1=n2
 .subst hn;rcases hR.out with⟨_,uAB,rfl,rfl,rfl⟩|⟨h,_⟩|⟨h,_⟩|⟨h,_⟩
  .have AD:=Zp (λW=>Oi A B uA uB uAB W);clear hR uAB
   go_wp2_with fail
   refine gB (AD.out _) λw5 o=>?_;have a:=c.call o;clear o Y Z x2 x3 x4 x5 x6 f g i j l m n y0 y1 y2 y3 y4 y5 y6 I J K L M N O v0 v1 v2 v3 v4 v5 v6 vf0 vf1 vf2 vf3 vf4 vf5 vf6 c;have z:=a.1;have r2:=a.2.2.1;obtain⟨⟨z0,z1,z2,z3,z4,z5,z6⟩,q,r,t,u,v,x,y⟩:=z;obtain⟨⟨t0,t1,t2,t3,t4,t5,t6⟩,P,Q,R,S,T,U,V⟩:=r2;go_simp;(repeat(any_goals(first|go_values|go_skip|go_guarded|go_step|go_upon)));refine bR ⟨rfl,?_⟩;have X:=a.2.2.2;exact EH (nL (Bb X (Zo _) _ _ _ _) (Zo _) _ _) oM _ _ _ _ _ _ _
  .exact absurd rfl h
  .exact absurd rfl h
  exact absurd rfl h
 have hne:(n1==n2)=false:=by rw[Zs];exact hn
 have LS:=Zp (λW=>mw A B uA uB W);rcases hR.out with⟨h,_⟩|⟨_,C,rfl,rfl,rfl⟩|⟨_,C,rfl,rfl,rfl,rfl⟩|⟨_,C,rfl,rfl,rfl,rfl⟩
 .exact absurd h hn
 .rw[ZP C]at LS;have SB:=Zp (λW=>nq B A uB uA W);clear hR hn C
  go_wp2_with fail
  refine gB (LS.out _) λw5 o=>?_;have a:=c.call o;clear o Y Z x2 x3 x4 x5 x6 f g i j l m n y0 y1 y2 y3 y4 y5 y6 I J K L M N O v0 v1 v2 v3 v4 v5 v6 vf0 vf1 vf2 vf3 vf4 vf5 vf6 c;have z:=a.1;have r1:=a.2.1;obtain⟨⟨z0,z1,z2,z3,z4,z5,z6⟩,q,r,t,u,v,x,y⟩:=z;obtain⟨⟨t0,t1,t2,t3,t4,t5,t6⟩,P,Q,R,S,T,U,V⟩:=r1
  go_wp2_with fail
  refine gB (SB.out _) λw6 F=>?_;have d:=a.call F;clear F z0 z1 z2 z3 z4 z5 z6 q r t u v x y t0 t1 t2 t3 t4 t5 t6 P Q R S T U V a;have z:=d.1;have r1:=d.2.1;have r2:=d.2.2.1;obtain⟨⟨a0,a1,a2,a3,a4,a5,a6⟩,af0,af1,af2,af3,af4,af5,af6⟩:=z;obtain⟨⟨b0,b1,b2,b3,b4,b5,b6⟩,bf0,bf1,bf2,bf3,bf4,bf5,bf6⟩:=r1;obtain⟨⟨c0,c1,c2,c3,c4,c5,c6⟩,cf0,cf1,cf2,cf3,cf4,cf5,cf6⟩:=r2;go_simp;repeat(any_goals(first|go_values|go_skip|go_guarded|go_step|go_upon))
  refine bR ⟨rfl,?_⟩;have X:=d.2.2.2;exact EH (nL (Bb X (Zo _) _ _ _ _) (Zo _) _ _) oM _ _ _ _ _ _ _
 .rw[Zv C]at LS;have SB:=Zp (λW=>nq A B uA uB W);have SC:=Zp (λW=>N9 (jW A B) (vv _ _) W);clear hR hn C
  go_wp2_with fail
  refine gB (LS.out _) λw5 o=>?_;have a:=c.call o;clear o Y Z x2 x3 x4 x5 x6 f g i j l m n y0 y1 y2 y3 y4 y5 y6 I J K L M N O v0 v1 v2 v3 v4 v5 v6 vf0 vf1 vf2 vf3 vf4 vf5 vf6 c;have z:=a.1;have r1:=a.2.1;obtain⟨⟨z0,z1,z2,z3,z4,z5,z6⟩,q,r,t,u,v,x,y⟩:=z;obtain⟨⟨t0,t1,t2,t3,t4,t5,t6⟩,P,Q,R,S,T,U,V⟩:=r1
  go_wp2_with fail
  refine gB (SB.out _) λw6 F=>?_;have d:=a.call F;clear F z0 z1 z2 z3 z4 z5 z6 q r t u v x y t0 t1 t2 t3 t4 t5 t6 P Q R S T U V a;have z:=d.1;obtain⟨⟨a0,a1,a2,a3,a4,a5,a6⟩,af0,af1,af2,af3,af4,af5,af6⟩:=z
  go_wp2_with fail
  refine gB (SC.out _) λw7 hb7=>?_;have hP7:=(show PB w nr E (jW A B) false n2 e2 B false _ from⟨d.1.setS _,d.2.1.farS oM _ _ _ _,d.2.2.1.farS oM _ _ _ _,(((d.2.2.2.setCell (p:=⟨_,_,_⟩) (Zo _) _).setCell (p:=⟨_,_,_⟩) (Zo _) _).setCell (p:=⟨_,_,_⟩) (Zo _) _).setCell (p:=⟨_,_,_⟩) (Zo _) _⟩).call hb7;have z:=hP7.1;have r2:=hP7.2.2.1;obtain⟨⟨b0,b1,b2,b3,b4,b5,b6⟩,bf0,bf1,bf2,bf3,bf4,bf5,bf6⟩:=z;obtain⟨⟨c0,c1,c2,c3,c4,c5,c6⟩,cf0,cf1,cf2,cf3,cf4,cf5,cf6⟩:=r2;go_simp;repeat(any_goals(first|go_values|go_skip|go_guarded|go_step|go_upon))
  refine bR ⟨rfl,?_⟩;have X:=hP7.2.2.2;exact EH (nL (Bb X (Zo _) _ _ _ _) (Zo _) _ _) oM _ _ _ _ _ _ _
 rw[Zv C]at LS;have SB:=Zp (λW=>nq A B uA uB W);clear hR hn C
 go_wp2_with fail
 refine gB (LS.out _) λw5 o=>?_;have a:=c.call o;clear o Y Z x2 x3 x4 x5 x6 f g i j l m n y0 y1 y2 y3 y4 y5 y6 I J K L M N O v0 v1 v2 v3 v4 v5 v6 vf0 vf1 vf2 vf3 vf4 vf5 vf6 c;have z:=a.1;have r1:=a.2.1;obtain⟨⟨z0,z1,z2,z3,z4,z5,z6⟩,q,r,t,u,v,x,y⟩:=z;obtain⟨⟨t0,t1,t2,t3,t4,t5,t6⟩,P,Q,R,S,T,U,V⟩:=r1
 go_wp2_with fail
 refine gB (SB.out _) λw6 F=>?_;have d:=a.call F;clear F z0 z1 z2 z3 z4 z5 z6 q r t u v x y t0 t1 t2 t3 t4 t5 t6 P Q R S T U V a;have z:=d.1;have r2:=d.2.2.1;obtain⟨⟨a0,a1,a2,a3,a4,a5,a6⟩,af0,af1,af2,af3,af4,af5,af6⟩:=z;obtain⟨⟨c0,c1,c2,c3,c4,c5,c6⟩,cf0,cf1,cf2,cf3,cf4,cf5,cf6⟩:=r2;go_simp;repeat(any_goals(first|go_values|go_skip|go_guarded|go_step|go_upon))
 refine bR ⟨rfl,?_⟩;have X:=d.2.2.2;exact EH (Bb X (Zo _) _ _ _ _) oM _ _ _ _ _ _ _
end
section
variable{a b:Nat}{e1 e2:Int}{n1 n2:Bool}
def tq(c:a≠0)(d:bl a<=200):bl (a*2^(250-bl a))=250:=by rw[bO c];omega
def tp(e:bl a<=200)(f:bl b<=200)(h:e2+(bl b:Int)<=e1+bl a):bl (lU b e2 (e1-(250-bl a:Nat)))<=250/\(lS b e2 (e1-(250-bl a:Nat))->bl (lU b e2 (e1-(250-bl a:Nat)))<=200):=by
 unfold lU lS;by_cases c:0<e1-((250-bl a:Nat):Int)-e2
 .rw[ZC c,ZC c];have:=e7 (aaM b (2^(e1-((250-bl a:Nat):Int)-e2).toNat));exact⟨oM,λ_=>oM⟩
 rw[Zr c,Zr c];refine⟨?_,λh=>by cases h⟩;by_cases d:b=0
 .rw[d,abM,gE];omega
 rw[bO d];omega
def oR{l:Bool}{A B:Nat}{E:Int}(c:bl A=250)(d:bl B<=250):bl (fE n1 n2 A B E l).2.2.1<=251/\(fE n1 n2 A B E l).2.1=E:=by
 have e:bl (A+B)<=251:=by
  rw[br];have f:=br.1 (aaE c);have g:=br.1 d;have:(2:Nat)^251=2^250+2^250:=dC;omega
 have h:=e7 (adv B A);have i:=e7 (adv A B);have j:bl (A-B-1)<=bl A:=e7 (Zz (adv _ _) (adv _ _));unfold fE;split
 .exact⟨e,rfl⟩
 split
 .exact⟨by show bl (B-A)<=251;omega,rfl⟩
 split
 .exact⟨by show bl (A-B-1)<=251;omega,rfl⟩
 exact⟨by show bl (A-B)<=251;omega,rfl⟩
def zD(c:bl a<=200)(d:bl b<=200)(g:e1<=4000)(h:e2<=4000):bl (lv n1 n2 a b e1 e2).2.2.1<=251/\(lv n1 n2 a b e1 e2).2.1<=4000:=by
 unfold lv;split
 .exact⟨by show bl b<=251;omega,h⟩
 rename_i i;split
 .exact⟨by show bl a<=251;omega,g⟩
 rename_i j;split
 .rename_i k;unfold lT;obtain⟨e,f⟩:=oR (n1:=n2) (n2:=n1) (l:=lS a e1 (e2-(250-bl b:Nat))) (E:=e2-(250-bl b:Nat)) (tq j d) (tp (e1:=e2) (e2:=e1) d c oM).1;exact⟨e,by rw[f];omega⟩
 rename_i k;unfold lT;obtain⟨e,f⟩:=oR (n1:=n1) (n2:=n2) (l:=lS b e2 (e1-(250-bl a:Nat))) (E:=e1-(250-bl a:Nat)) (tq i c) (tp (e1:=e1) (e2:=e2) c d oM).1;exact⟨e,by rw[f];omega⟩
def bF{n:Nat}(h:bl n<=256):au n:=br.1 h
end
section
open Go.RowKit
attribute[local go_sem] tS
def HR(i j k l:Bool)(n o E:Int)(p q c m:Nat)(r:au c)(P:BC 148 #[NV i n p false,NV j o q false] (NV k E c l))(s:decide (c=0)=false)(d f:Nat)(R:Hid (∀W,Bf prog 143 #[NV k E c l,qB m] W (ai d f false W)))(w:AK):
 Bf prog 140 #[NV i n p false,NV j o q false,qB m] w (ai d f false w):=by
 go_enter func140,ntmps140
 go_wp2_with fail
 refine(P.out _).mono ?_;rintro e g⟨rfl,a⟩;have aJ:=(a).size;(try simp at aJ);have kL:(w:Nat)<g:=oM;have kK:(w:Nat)+1<g:=oM;have afd:(w:Nat)+1+1<g:=oM;obtain⟨cD,cC⟩:=bcC (w+1+1+1) a
 go_wp2_with fail
 refine(R.out _).mono ?_;rintro e h⟨rfl,b⟩;have aU:=(b).size;(try simp at aU);have kJ:(w:Nat)<h:=oM;have kI:(w:Nat)+1<h:=oM;have afg:(w:Nat)+1+1<h:=oM;obtain⟨en,ei⟩:=bcC (w+1+1+1) b
 go_wp2_with fail
 refine aaT (v:=nE d f false) (by simp[results,results140,go_sem, *]) rfl ⟨rfl,?_⟩;exact cB
def Fb(a f l i:Bool)(j k E:Int)(c d g m:Nat)(n:au g)(P:BC 148 #[NV a j c false,NV f k d false] (NV l E g i))(r:decide (g=0))(o:i=false)(p:au c)(q:au d)(s:decide (c=0))(t:decide (d=0))(u:(a==f))(w:AK):
 Bf prog 140 #[NV a j c false,NV f k d false,qB m] w (ai (aF a) 0 false w):=by
 subst o;go_enter func140,ntmps140
 go_wp2_with fail
 refine(P.out _).mono ?_;rintro e h⟨rfl,b⟩;have aJ:=(b).size;(try simp at aJ);have kL:(w:Nat)<h:=oM;have kK:(w:Nat)+1<h:=oM;have afd:(w:Nat)+1+1<h:=oM;obtain⟨cD,cC⟩:=bcC (w+1+1+1) b
 go_wp2_with(go_at_call 149;refine(cA _ _).mono ?_;rintro e w'⟨rfl,rfl⟩)
 refine aaT (v:=nE (aF a) 0 false) (by simp[results,results140,go_sem, *]) rfl ⟨rfl,?_⟩;exact cB
def Fa(h i n j:Bool)(k l E:Int)(b c d m:Nat)(o:au d)(P:BC 148 #[NV h k b false,NV i l c false] (NV n E d j))(t:decide (d=0))(p:j=false)(q:au b)(r:au c)(u:decide (b=0)=false)(f:Bool)(s:((m:Int)==4)=f)(w:AK):
 Bf prog 140 #[NV h k b false,NV i l c false,qB m] w (ai (aF f) 0 false w):=by
 subst p;go_enter func140,ntmps140
 go_wp2_with fail
 refine(P.out _).mono ?_;rintro e g⟨rfl,a⟩;have aJ:=(a).size;(try simp at aJ);have kL:(w:Nat)<g:=oM;have kK:(w:Nat)+1<g:=oM;have afd:(w:Nat)+1+1<g:=oM;obtain⟨cD,cC⟩:=bcC (w+1+1+1) a
 go_wp2_with(go_at_call 149;refine(cA _ _).mono ?_;rintro e w'⟨rfl,rfl⟩)
 refine aaT (v:=nE (aF f) 0 false) (by simp[results,results140,go_sem, *]) rfl ⟨rfl,?_⟩;exact cB
def E9(h i n j:Bool)(k l E:Int)(b c d m:Nat)(o:au d)(P:BC 148 #[NV h k b false,NV i l c false] (NV n E d j))(t:decide (d=0))(p:j=false)(q:au b)(r:au c)(u:decide (b=0))(x:decide (c=0)=false)(f:Bool)(s:((m:Int)==4)=f)(w:AK):
 Bf prog 140 #[NV h k b false,NV i l c false,qB m] w (ai (aF f) 0 false w):=by
 subst p;go_enter func140,ntmps140
 go_wp2_with fail
 refine(P.out _).mono ?_;rintro e g⟨rfl,a⟩;have aJ:=(a).size;(try simp at aJ);have kL:(w:Nat)<g:=oM;have kK:(w:Nat)+1<g:=oM;have afd:(w:Nat)+1+1<g:=oM;obtain⟨cD,cC⟩:=bcC (w+1+1+1) a
 go_wp2_with(go_at_call 149;refine(cA _ _).mono ?_;rintro e w'⟨rfl,rfl⟩)
 refine aaT (v:=nE (aF f) 0 false) (by simp[results,results140,go_sem, *]) rfl ⟨rfl,?_⟩;exact cB
def E8(d f n j:Bool)(k l E:Int)(b c g m:Nat)(o:au g)(P:BC 148 #[NV d k b false,NV f l c false] (NV n E g j))(t:decide (g=0))(p:j=false)(q:au b)(r:au c)(u:decide (b=0))(x:decide (c=0))(y:(d==f)=false)(h:Bool)(s:((m:Int)==4)=h)(w:AK):
 Bf prog 140 #[NV d k b false,NV f l c false,qB m] w (ai (aF h) 0 false w):=by
 subst p;go_enter func140,ntmps140
 go_wp2_with fail
 refine(P.out _).mono ?_;rintro e i⟨rfl,a⟩;have aJ:=(a).size;(try simp at aJ);have kL:(w:Nat)<i:=oM;have kK:(w:Nat)+1<i:=oM;have afd:(w:Nat)+1+1<i:=oM;obtain⟨cD,cC⟩:=bcC (w+1+1+1) a
 go_wp2_with(go_at_call 149;refine(cA _ _).mono ?_;rintro e w'⟨rfl,rfl⟩)
 refine aaT (v:=nE (aF h) 0 false) (by simp[results,results140,go_sem, *]) rfl ⟨rfl,?_⟩;exact cB
def N7(op m a b c:Nat)(e:PC 42 #[.int .u64 a] (.int .i64 3))(f:PC 42 #[.int .u64 b] (.int .i64 3))(g:((a:Int)!=b))(w:AK):
 Bf prog 130 #[REC op m a b c] w (ai 9221120237041090560 16 false w):=by
 go_enter func130,ntmps130;go_upto_region 1 with(fail)
 go_region_held3(λw'=>(w' (aD w 2)=some (.int .u64 a)/\w' (aD w 3)=some (.int .u64 b)))
  (first
   |(refine⟨?_,?_⟩<;>(go_simp;done))
   |go_keep)
  (first
   |(go_at_call_of 42 (Value.int IntKind.u64 a);refine gW (e.out _) ?_)
   |(go_at_call_of 42 (Value.int IntKind.u64 b);refine gW (f.out _) ?_))
 go_wp2_with(go_at_call 61;refine gB (cP _) λj d=>?_;obtain⟨h,i⟩:=de d)
 all_goals exact bR ⟨rfl,cB⟩
def QA(op m a b c:Nat)(d:PC 42 #[.int .u64 a] (.int .i64 3))(e:PC 42 #[.int .u64 b] (.int .i64 3))(f:((a:Int)!=b)=false)(w:AK):
 Bf prog 130 #[REC op m a b c] w (ai a 0 false w):=by
 go_enter func130,ntmps130;go_upto_region 1 with(fail)
 go_region_held3(λw'=>(w' (aD w 2)=some (.int .u64 a)/\w' (aD w 3)=some (.int .u64 b)))
  (first
   |(refine⟨?_,?_⟩<;>(go_simp;done))
   |go_keep)
  (first
   |(go_at_call_of 42 (Value.int IntKind.u64 a);refine gW (d.out _) ?_)
   |(go_at_call_of 42 (Value.int IntKind.u64 b);refine gW (e.out _) ?_))
 go_wp2_with fail
 all_goals exact bR ⟨rfl,cB⟩
def Qz(op m a b c d:Nat)(f:PC 42 #[.int .u64 a] (.int .i64 3))(g:PC 42 #[.int .u64 b] (.int .i64 (d:Int)))(e:((d:Int)==3)=false)(w:AK):
 Bf prog 130 #[REC op m a b c] w (ai a 0 false w):=by
 go_enter func130,ntmps130;go_upto_region 1 with(fail)
 go_region_held3(λw'=>(w' (aD w 2)=some (.int .u64 a)/\w' (aD w 3)=some (.int .u64 b)))
  (first
   |(refine⟨?_,?_⟩<;>(go_simp;done))
   |go_keep)
  (first
   |(go_at_call_of 42 (Value.int IntKind.u64 a);refine gW (f.out _) ?_)
   |(go_at_call_of 42 (Value.int IntKind.u64 b);refine gW (g.out _) ?_))
 go_wp2_with fail
 all_goals exact bR ⟨rfl,cB⟩
def Qx(op m a b c d:Nat)(f:PC 42 #[.int .u64 a] (.int .i64 (d:Int)))(g:PC 42 #[.int .u64 b] (.int .i64 3))(e:((d:Int)==3)=false)(w:AK):
 Bf prog 130 #[REC op m a b c] w (ai b 0 false w):=by
 go_enter func130,ntmps130;go_upto_region 1 with(fail)
 go_region_held3(λw'=>(w' (aD w 2)=some (.int .u64 a)/\w' (aD w 3)=some (.int .u64 b)))
  (first
   |(refine⟨?_,?_⟩<;>(go_simp;done))
   |go_keep)
  (first
   |(go_at_call_of 42 (Value.int IntKind.u64 a);refine gW (f.out _) ?_)
   |(go_at_call_of 42 (Value.int IntKind.u64 b);refine gW (g.out _) ?_))
 go_wp2_with fail
 all_goals exact bR ⟨rfl,cB⟩
def Qw(op m a b c g h:Nat)(t:PC 42 #[.int .u64 a] (.int .i64 (g:Int)))(u:PC 42 #[.int .u64 b] (.int .i64 (h:Int)))(i j:Bool)(k l:Int)(n o p q:Nat)(v:BC 141 #[.int .u64 a] (NV i k n false))(x:BC 141 #[.int .u64 b] (NV j l o false))(R:Hid (∀W,Bf prog 140 #[NV i k n false,NV j l o false,.int .u8 m] W (ai p q false W)))(r:((g:Int)==3)=false)(s:((h:Int)==3)=false)(w:AK):
 Bf prog 130 #[REC op m a b c] w (ai p q false w):=by
 go_enter func130,ntmps130;go_upto_region 1 with(fail)
 go_region_held3(λw'=>(w' (aD w 2)=some (.int .u64 a)/\w' (aD w 3)=some (.int .u64 b)))
  (first
   |(refine⟨?_,?_⟩<;>(go_simp;done))
   |go_keep)
  (first
   |(go_at_call_of 42 (Value.int IntKind.u64 a);refine gW (t.out _) ?_)
   |(go_at_call_of 42 (Value.int IntKind.u64 b);refine gW (u.out _) ?_))
 have eo:RB w m a b c (aC (aC w #[.int .u8 op,.int .u8 m,.int .u64 a,.int .u64 b,.int .u64 c] 59) #[.int .u64 0,.int .u8 0,.bool false] 56).drew:=(aeG op).drew
 go_wp2_with fail
 go_region_held3(λw'=>(w' (aD w 1)=some (.int .u8 m)/\w' (aD w 2)=some (.int .u64 a)/\w' (aD w 3)=some (.int .u64 b)/\w' (aD w 4)=some (.int .u64 c)))
  (first
   |exact tI
   |exact j8
   |exact j9
   |exact eo.1
   |go_keep)
  (first
   |(go_at_call_of 141 (Value.int IntKind.u64 a);refine gB (v.out _) λy d=>?_;have dP:RB w m a b c y:=aeE (by first|exact eo|exact eo.drew|exact(eo.drew).drew) d;have kh:=dP;obtain⟨j9,⟨qk,qi,qg⟩,⟨qu,qo,qm⟩,_⟩:=kh)
   |(go_at_call_of 141 (Value.int IntKind.u64 b);refine gB (x.out _) λz e=>?_;have fT:RB w m a b c z:=aeE (by first|exact dP|exact dP.drew|exact(dP.drew).drew|exact eo|exact eo.drew|exact(eo.drew).drew) e;have kg:=fT;obtain⟨j8,⟨qj,qh,qf⟩,⟨qp,qn,ql⟩,_⟩:=kg)
   |(go_at_call 140;refine gB (R.out _) λA f=>?_;have lx:RB w m a b c A:=aeE (by first|exact fT|exact fT.drew|exact(fT.drew).drew|exact dP|exact dP.drew|exact(dP.drew).drew) f;have tJ:=lx;obtain⟨tI,⟨CJ,CI,CH⟩,⟨CM,CL,CK⟩,_⟩:=tJ))
 go_wp2_with fail
 refine bR ⟨rfl,?_⟩;exact lx.laid _ _ _
def Rc(op m a b c e f g:Nat)(h:Na .xor .u64 (b:Int) 9223372036854775808=e)(A:Hid (∀W,Bf prog 130 #[REC op m a e c] W (ai f g false W)))(w:AK):
 Bf prog 131 #[REC op m a b c] w (ai f g false w):=by
 go_enter func131,ntmps131
 go_wp2_with fail
 refine gB (A.out _) λi d=>?_;have aJ:=(d).size;(try simp at aJ);obtain⟨cD,cC⟩:=bcC (w+1+1) d
 go_wp2_with fail
 exact bR ⟨rfl,cB⟩
end
section
open Go.RowKit
attribute[local go_sem] AF
def Mi(f b:Bool)(g c:Int)(a d:Nat)(h:au a)(i:decide (0=a))(w:AK):
 Bf prog 148 #[NV f g a false,NV b c d false] w λe w'=>e=.returned (NV b c d false)/\Np w w w':=by
 go_enter func148,ntmps148;repeat(any_goals(first|go_values|go_skip|go_guarded|go_step|go_upon))
 exact bR ⟨rfl,cB⟩
def Mh(c f:Bool)(d g:Int)(a b:Nat)(h:au a)(i:au b)(j:decide (0=a)=false)(k:decide (0=b))(w:AK):
 Bf prog 148 #[NV c d a false,NV f g b false] w λe w'=>e=.returned (NV c d a false)/\Np w w w':=by
 go_enter func148,ntmps148;repeat(any_goals(first|go_values|go_skip|go_guarded|go_step|go_upon))
 exact bR ⟨rfl,cB⟩
def zA(o p n1 n2:Bool)(c d e1 e2:Int)(f g s1 s2:Nat)(G:f≠0)(H:g≠0)(v:bl f<=200)(x:bl g<=200)(y:-4000<=c)(z:c<=4000)(C:-4000<=d)(D:d<=4000)
 (m:(c+(bl f:Int)<d+bl g/\n1=p/\e1=d/\s1=g/\n2=o/\e2=c/\s2=f)\/(¬c+(bl f:Int)<d+bl g/\n1=o/\e1=c/\s1=f/\n2=p/\e2=d/\s2=g))(w:AK):
 Bf prog 148 #[NV o c f false,NV p d g false] w λe w'=>e=.returned (NV (lT n1 n2 s1 s2 e1 e2).1 (lT n1 n2 s1 s2 e1 e2).2.1 (lT n1 n2 s1 s2 e1 e2).2.2.1 (lT n1 n2 s1 s2 e1 e2).2.2.2)/\Np w w w':=by
 have I:s1≠0/\bl s1<=200/\bl s2<=200/\-4000<=e1/\e1<=4000/\-4000<=e2/\e2<=4000/\e2+(bl s2:Int)<=e1+bl s1:=by
  rcases m with⟨h,rfl,rfl,rfl,rfl,rfl,rfl⟩|⟨h,rfl,rfl,rfl,rfl,rfl,rfl⟩
  .exact⟨H,x,v,C,D,y,z,oM⟩
  exact⟨G,v,x,y,z,C,D,oM⟩
 obtain⟨J,l1,l2,U,V,W,X,K⟩:=I;have F:=tq J l1;obtain⟨q,r⟩:=tp l1 l2 K;have s:=(oR (n1:=true) (n2:=true) (E:=0) (l:=false) F q).1;unfold lT;have L:fO s1 (250-bl s1)=s1*2^(250-bl s1):=js (bF oM);have t:(0<e1-((250-bl s1:Nat):Int)-e2/\lU s2 e2 (e1-(250-bl s1:Nat))=s2/2^(e1-((250-bl s1:Nat):Int)-e2).toNat/\lS s2 e2 (e1-(250-bl s1:Nat))=decide (s2%2^(e1-((250-bl s1:Nat):Int)-e2).toNat≠0))\/
  (¬0<e1-((250-bl s1:Nat):Int)-e2/\0<=-(e1-((250-bl s1:Nat):Int)-e2)/\-(e1-((250-bl s1:Nat):Int)-e2)<100000/\lU s2 e2 (e1-(250-bl s1:Nat))=fO s2 (-(e1-((250-bl s1:Nat):Int)-e2)).toNat/\lS s2 e2 (e1-(250-bl s1:Nat))=false):=by
  by_cases j:0<e1-((250-bl s1:Nat):Int)-e2
  .exact .inl ⟨j,by unfold lU;rw[ZC j],by unfold lS;rw[ZC j]⟩
  refine .inr ⟨j,oM,oM,?_,by unfold lS;rw[Zr j]⟩;have e:lU s2 e2 (e1-(250-bl s1:Nat))=s2*2^(e2-(e1-((250-bl s1:Nat):Int))).toNat:=by unfold lU;rw[Zr j]
  rw[e]at q⊢;rw[show(-(e1-((250-bl s1:Nat):Int)-e2)).toNat=(e2-(e1-((250-bl s1:Nat):Int))).toNat from by omega];exact(js (bF oM)).symm
 generalize M:e1-((250-bl s1:Nat):Int)=E at*;generalize N:lU s2 e2 E=B at*;generalize O:lS s2 e2 E=a at*;generalize P:s1*2^(250-bl s1)=A at*;have n:au B:=bF oM;have i:au A:=bF oM;have Q:(n1=n2/\au (A+B)/\(fE n1 n2 A B E a).1=n1/\(fE n1 n2 A B E a).2.2.1=A+B/\(fE n1 n2 A B E a).2.2.2=a)\/(n1≠n2/\A<B/\(fE n1 n2 A B E a).1=n2/\(fE n1 n2 A B E a).2.2.1=jW B A/\(fE n1 n2 A B E a).2.2.2=false)\/(n1≠n2/\¬A<B/\a/\(fE n1 n2 A B E a).1=n1/\(fE n1 n2 A B E a).2.2.1=jW (jW A B) 1/\(fE n1 n2 A B E a).2.2.2)\/(n1≠n2/\¬A<B/\a=false/\(fE n1 n2 A B E a).1=n1/\(fE n1 n2 A B E a).2.2.1=jW A B/\(fE n1 n2 A B E a).2.2.2=false):=by
  unfold fE;by_cases k:n1=n2
  .rw[ZC k];have R:au (A+B):=by
    have:bl (A+B)<=251:=s;exact bF oM
   exact .inl ⟨k,R,rfl,rfl,rfl⟩
  rw[Zr k];by_cases b:A<B
  .rw[ZC b];exact .inr (.inl ⟨k,b,rfl,(oE n oM).symm,rfl⟩)
  rw[Zr b];cases a with
  |true=>
   have S:B<A:=by
    have T:=r rfl;have Y:=br.1 T;have Z:2^249<=A:=jz.1 oM;have h8:(2:Nat)^200<=2^249:=aaa dC oM;omega
   have e1:=oE i (show B<=A by omega);have e2:=oE (vv A B) (show 1<=jW A B by rw[e1];omega);rw[e1]at e2;exact .inr (.inr (.inl ⟨k,b,rfl,rfl,by rw[e1];exact e2.symm,rfl⟩))
  |false=>exact .inr (.inr (.inr ⟨k,b,rfl,rfl,(oE i oM).symm,rfl⟩))
 have u:(fE n1 n2 A B E a).2.1=E:=(oR F q).2;rw[u];exact Mj o p n1 n2 c d e1 e2 _ _ f g s1 s2 (bF oM) (bF oM) (Zv oM) (Zv oM) (show _=c+(bl f:Int) by rw[ZZ];omega) (show _=d+(bl g:Int) by rw[ZZ];omega) m
  (bF oM) (250-bl s1) (by unfold Nq;omega) oM A L i E (by rw[ZZ];omega) (bF oM) (E-e2) (by unfold Nq;omega) B a n (-(E-e2)) (by unfold Nq;omega) t _ _ _ Q w
def zB(f g:Bool)(a b:Int)(c d:Nat)(k:bl c<=200)(l:bl d<=200)(m:-4000<=a)(n:a<=4000)(o:-4000<=b)(p:b<=4000)(w:AK):
 Bf prog 148 #[NV f a c false,NV g b d false] w λe w'=>e=.returned (NV (lv f g c d a b).1 (lv f g c d a b).2.1 (lv f g c d a b).2.2.1 (lv f g c d a b).2.2.2)/\Np w w w':=by
 unfold lv;by_cases h:c=0
 .rw[ZC h];exact Mi f g a b c d (bF oM) (ZP h.symm) w
 rw[Zr h];by_cases i:d=0
 .rw[ZC i];exact Mh f g a b c d (bF oM) (bF oM) (Zv oM) (ZP i.symm) w
 rw[Zr i];by_cases j:a+(bl c:Int)<b+bl d
 .rw[ZC j];exact zA f g g f a b b a c d d c h i k l m n o p (.inl ⟨j,rfl,rfl,rfl,rfl,rfl,rfl⟩) w
 rw[Zr j];exact zA f g f g a b a b c d c d h i k l m n o p (.inr ⟨j,rfl,rfl,rfl,rfl,rfl,rfl⟩) w
def sN(g a:Bool)(b c:Int)(d f m:Nat)(R:m<5)(A:bl d<=200)(B:bl f<=200)(I:-4000<=b)(J:b<=4000)(K:-4000<=c)(L:c<=4000)(w:AK):
 Bf prog 140 #[NV g b d false,NV a c f false,qB m] w (ai (gU m g a (val d b) (val f c)).1 (gU m g a (val d b) (val f c)).2 false w):=by
 have P:=Zp (λW=>zB g a b c d f A B I J K L W);have C:=zC (n1:=g) (n2:=a) A B I K;obtain⟨q1,S⟩:=zD (n1:=g) (n2:=a) (e1:=b) (e2:=c) A B J L;have D:=C.zero;have M:=λh=>C.round (m:=m) h;obtain⟨_,v,F,_⟩:=C;have k:au d:=bF oM;have l:au f:=bF oM;have N:=val_eq_zero (n:=d) (e:=b);have O:=val_eq_zero (n:=f) (e:=c);unfold gU;generalize lv g a d f b c=p at*;obtain⟨t,E,j,r⟩:=p;simp only at P q1 S D M v F;have i:au j:=bF oM;by_cases x:(fi g a (val d b) (val f c)).2=0
 .rw[Zr (by rw[x];simp)];have Q:=mt D.1 (by rw[x];simp);have o:j=0:=by rcases aaq j with h|h;exact h;exact absurd (.inl oM) Q
  have q:r=false:=by cases r;rfl;exact absurd (.inr rfl) Q
  by_cases u:val d b=0/\val f c=0/\g=a
  .rw[ZC u];exact Fb g a t r b c E d f j m i P (ZP o) q k l (ZP (N.1 u.1)) (ZP (O.1 u.2.1)) (by rw[u.2.2];exact beq_self_eq_true a) w
  rw[Zr u];have s:((m:Int)==4)=decide (m=4):=by
   by_cases h:m=4
   .rw[ZP h,h];rfl
   rw[Zv h,Zs];omega
  by_cases z:d=0
  .by_cases G:f=0
   ·(have H:(g==a)=false:=by rw[Zs];exact λh=>u ⟨N.2 z,O.2 G,h⟩);exact E8 g a t r b c E d f j m i P (ZP o) q k l (ZP z) (ZP G) H _ s w
   exact E9 g a t r b c E d f j m i P (ZP o) q k l (ZP z) (Zv G) _ s w
  exact Fa g a t r b c E d f j m i P (ZP o) q k l (Zv z) _ s w
 rw[ZC x,<-M x];have y:j≠0:=by
  rcases D.2 x with h|h
  .exact h
  have:=v h;exact ey.1 oM
 exact HR g a t r b c E d f j m i P (Zv y) _ _ (λW=>fD t r E j m i y R oM oM W) w
def zP{k n:Nat}(h:k≠n):((k:Int)==(n:Int))=false:=by rw[Zs];omega
def kX(a:Nat):bl (ay a)<=53:=br.2 (eX a)
def r7(op m a b c:Nat)(i:m<5)(j:U64 a)(k:U64 b)(l:af a<4)(o:af b<4)(w:AK):Bf prog 130 #[REC op m a b c] w (ai (jO m a b).1 (jO m a b).2 false w):=by
 have g:=Zp (λW=>aX a W);have d:=Zp (λW=>aX b W);unfold jO;by_cases h:af a=3
 .rw[h]at g⊢;by_cases e:af b=3
  .rw[e]at d⊢;by_cases f:a=b
   .rw[Zr (by simp[f]),ZC rfl];exact QA op m a b c g d (by rw[f];simp) w
   rw[ZC ⟨rfl,rfl,f⟩];exact N7 op m a b c g d (by rw[ac9];omega) w
  rw[Zr oM,ZC rfl];exact Qz op m a b c _ g d (zP (n:=3) e) w
 rw[Zr oM,Zr h];by_cases e:af b=3
 .rw[e]at d;rw[ZC e];exact Qx op m a b c _ g d (zP (n:=3) h) w
 rw[Zr e,<-ox,<-ox];have p:=aV a;have q:=aV b;have d1:=kX a;have d2:=kX b;exact Qw op m a b c _ _ g d _ _ _ _ _ _ _ _ (λW=>bu a j W) (λW=>bu b k W) (λW=>sN _ _ _ _ _ _ m i oM oM oM oM oM oM W) (zP (n:=3) h) (zP (n:=3) e) w
def vY{b:Nat}(f:U64 b):af (jT b)=af b:=by
 have h:jT b=b+9223372036854775808\/(9223372036854775808<=b/\jT b=b-9223372036854775808):=by
  unfold jT;rcases aa8 b 9223372036854775808 with h|h
  .left;have:=acL (i:=63) (b:=b) h 1;rw[adK]at this;have e:(9223372036854775808:Nat)=2^63:=dC;rw[e]at h⊢;apply adN;intro j;rw[aco,this,aeI,Nat.testBit_or,acv];by_cases a:63=j
   .subst a;rw[Nat.testBit_lt_two_pow h];rfl
   rw[Zv a];simp
  right;refine⟨h,?_⟩;obtain⟨d,rfl⟩:∃d,b=9223372036854775808+d:=⟨b-9223372036854775808,oM⟩;have c:d<9223372036854775808:=by have:=f.out;omega
  have:=acL (i:=63) (b:=d) c 1;rw[adK]at this;have e:(9223372036854775808:Nat)=2^63:=dC;rw[acz];rw[e]at c⊢;apply adN;intro j;rw[this,aeI,Nat.testBit_or,acv];by_cases a:63=j
  .subst a;rw[Nat.testBit_lt_two_pow c];rfl
  rw[Zv a];simp
 unfold af;rcases h with h|⟨g,h⟩
 .rw[h,show(b+9223372036854775808)/4503599627370496%2048=b/4503599627370496%2048 from by omega,show(b+9223372036854775808)%4503599627370496=b%4503599627370496 from by omega]
 rw[h,show(b-9223372036854775808)/4503599627370496%2048=b/4503599627370496%2048 from by omega,show(b-9223372036854775808)%4503599627370496=b%4503599627370496 from by omega]
def DF(op m a b c:Nat)(e:m<5)(f:U64 a)(d:U64 b)(g:af a<4)(h:af b<4)(w:AK):Bf prog 131 #[REC op m a b c] w (ai (jO m a (jT b)).1 (jO m a (jT b)).2 false w):=
 Rc op m a b c _ _ _ (yC d) (λW=>r7 op m a (jT b) c e f (HC d) g (by rw[vY d];exact h) W) w
end
section
open Go.RowKit
def CE(op m a b c d:Nat)(e:PC 42 #[.int .u64 a] (.int .i64 3))(f:PC 42 #[.int .u64 b] (.int .i64 (d:Int)))(w:AK):
 Bf prog 138 #[REC op m a b c] w (ai 9218868437227405312 0 false w):=by
 go_enter func138,ntmps138;go_upto_region 2 with(fail);go_cut[3] (λs g=>s=pT (w+1+1) 0/\(aC (aC (aC w #[.int .u8 op,.int .u8 m,.int .u64 a,.int .u64 b,.int .u64 c] 59) #[.int .u64 0,.int .u8 0,.bool false] 56) #[.int .i64 3,.int .i64 (d:Int)] 113).drew=g)
 case first=>
  go_region_held3(λw'=>(w' (aD w 2)=some (.int .u64 a)/\w' (aD w 3)=some (.int .u64 b)))
   (first
    |(refine⟨?_,?_⟩<;>(go_simp;done))
    |go_keep)
   (first
    |(go_at_call_of 42 (Value.int IntKind.u64 a);refine gW (e.out _) ?_)
    |(go_at_call_of 42 (Value.int IntKind.u64 b);refine gW (f.out _) ?_))
  all_goals(go_wp2_with fail;go_meet;exact⟨rfl,rfl⟩)
 obtain⟨rfl,rfl⟩:=hcut
 go_wp2_with fail
 all_goals exact bR ⟨rfl,cB⟩
def CC(op m a b c d:Nat)(f:PC 42 #[.int .u64 a] (.int .i64 (d:Int)))(g:PC 42 #[.int .u64 b] (.int .i64 3))(e:((d:Int)==3)=false)(w:AK):
 Bf prog 138 #[REC op m a b c] w (ai 9218868437227405312 0 false w):=by
 go_enter func138,ntmps138;go_upto_region 2 with(fail);go_cut[3] (λs h=>s=pT (w+1+1) 0/\(aC (aC (aC w #[.int .u8 op,.int .u8 m,.int .u64 a,.int .u64 b,.int .u64 c] 59) #[.int .u64 0,.int .u8 0,.bool false] 56) #[.int .i64 (d:Int),.int .i64 3] 113).drew=h)
 case first=>
  go_region_held3(λw'=>(w' (aD w 2)=some (.int .u64 a)/\w' (aD w 3)=some (.int .u64 b)))
   (first
    |(refine⟨?_,?_⟩<;>(go_simp;done))
    |go_keep)
   (first
    |(go_at_call_of 42 (Value.int IntKind.u64 a);refine gW (f.out _) ?_)
    |(go_at_call_of 42 (Value.int IntKind.u64 b);refine gW (g.out _) ?_))
  all_goals(go_wp2_with fail;go_meet;exact⟨rfl,rfl⟩)
 obtain⟨rfl,rfl⟩:=hcut
 go_wp2_with fail
 all_goals exact bR ⟨rfl,cB⟩
def JO(op m a b c:Nat)(d:PC 42 #[.int .u64 a] (.int .i64 0))(e:PC 42 #[.int .u64 b] (.int .i64 0))(w:AK):
 Bf prog 138 #[REC op m a b c] w (ai 0 0 false w):=by
 go_enter func138,ntmps138;go_upto_region 2 with(fail);go_cut[3] (λs f=>s=pT (w+1+1) 0/\(aC (aC (aC w #[.int .u8 op,.int .u8 m,.int .u64 a,.int .u64 b,.int .u64 c] 59) #[.int .u64 0,.int .u8 0,.bool false] 56) #[.int .i64 0,.int .i64 0] 113).drew=f)
 case first=>
  go_region_held3(λw'=>(w' (aD w 2)=some (.int .u64 a)/\w' (aD w 3)=some (.int .u64 b)))
   (first
    |(refine⟨?_,?_⟩<;>(go_simp;done))
    |go_keep)
   (first
    |(go_at_call_of 42 (Value.int IntKind.u64 a);refine gW (d.out _) ?_)
    |(go_at_call_of 42 (Value.int IntKind.u64 b);refine gW (e.out _) ?_))
  all_goals(go_wp2_with fail;go_meet;exact⟨rfl,rfl⟩)
 obtain⟨rfl,rfl⟩:=hcut
 go_wp2_with fail
 all_goals exact bR ⟨rfl,cB⟩
def Ia{w W:AK}{g i B m a b c:Nat}{p q:Bool}{r s:Int}{j k:Nat}(h:((cF W w 1 (qB m)/\cF W w 2 (iU a)/\cF W w 3 (iU b)/\cF W w 4 (iU c))/\(cF W g 0 (Value.bool (p))/\cF W g 1 (iI (r))/\cF W g 2 (iU (wd 0 (j)))/\cF W g 3 (iU (wd 1 (j)))/\cF W g 4 (iU (wd 2 (j)))/\cF W g 5 (iU (wd 3 (j)))/\cF W g 6 (Value.bool (false)))/\(cF W i 0 (Value.bool (q))/\cF W i 1 (iI (s))/\cF W i 2 (iU (wd 0 (k)))/\cF W i 3 (iU (wd 1 (k)))/\cF W i 4 (iU (wd 2 (k)))/\cF W i 5 (iU (wd 3 (k)))/\cF W i 6 (Value.bool (false)))))(o:B≠w)(l:B≠g)(n:B≠i)(d e f:Aq):((cF (sC3 W B d e f) w 1 (qB m)/\cF (sC3 W B d e f) w 2 (iU a)/\cF (sC3 W B d e f) w 3 (iU b)/\cF (sC3 W B d e f) w 4 (iU c))/\(cF (sC3 W B d e f) g 0 (Value.bool (p))/\cF (sC3 W B d e f) g 1 (iI (r))/\cF (sC3 W B d e f) g 2 (iU (wd 0 (j)))/\cF (sC3 W B d e f) g 3 (iU (wd 1 (j)))/\cF (sC3 W B d e f) g 4 (iU (wd 2 (j)))/\cF (sC3 W B d e f) g 5 (iU (wd 3 (j)))/\cF (sC3 W B d e f) g 6 (Value.bool (false)))/\(cF (sC3 W B d e f) i 0 (Value.bool (q))/\cF (sC3 W B d e f) i 1 (iI (s))/\cF (sC3 W B d e f) i 2 (iU (wd 0 (k)))/\cF (sC3 W B d e f) i 3 (iU (wd 1 (k)))/\cF (sC3 W B d e f) i 4 (iU (wd 2 (k)))/\cF (sC3 W B d e f) i 5 (iU (wd 3 (k)))/\cF (sC3 W B d e f) i 6 (Value.bool (false)))):=by
 obtain⟨⟨t,u,v,x⟩,⟨y,z,A,C,D,E,F⟩,c0,G,H,I,J,K,L⟩:=h;exact⟨⟨aH t o _ _ _,aH u o _ _ _,aH v o _ _ _,aH x o _ _ _⟩,⟨aH y l _ _ _,aH z l _ _ _,aH A l _ _ _,aH C l _ _ _,aH D l _ _ _,aH E l _ _ _,aH F l _ _ _⟩,aH c0 n _ _ _,aH G n _ _ _,aH H n _ _ _,aH I n _ _ _,aH J n _ _ _,aH K n _ _ _,aH L n _ _ _⟩
def Gy(op m a b c O P:Nat)(Ka:PC 42 #[.int .u64 a] (.int .i64 (O:Int)))(Kb:PC 42 #[.int .u64 b] (.int .i64 (P:Int)))(H I np lp l:Bool)(F G fa fb ep h:Int)(D E ta tb sp r bt fl:Nat)(Ua:BC 141 #[.int .u64 a] (NV H F D false))(Ub:BC 141 #[.int .u64 b] (NV I G E false))(Ta:BC 142 #[NV H F D false,NV H F D false] (NV false fa ta false))(Tb:BC 142 #[NV I G E false,NV I G E false] (NV false fb tb false))(PL:BC 148 #[NV false fa ta false,NV false fb tb false] (NV np ep sp lp))
 (Ro:BC 146 #[NV np ep sp lp] (NV false h r l))(R:Hid (∀W,Bf prog 143 #[NV false h r l,.int .u8 m] W (ai bt fl false W)))(hka0:((O:Int)==0)=false)(hka3:((O:Int)==3)=false)(hkb3:((P:Int)==3)=false)(w:AK):
 Bf prog 138 #[REC op m a b c] w (ai bt fl false w):=by
 go_enter func138,ntmps138;go_upto_region 2 with(fail);go_cut[3] (λs Q=>s=pT (w+1+1) 0/\(aC (aC (aC w #[.int .u8 op,.int .u8 m,.int .u64 a,.int .u64 b,.int .u64 c] 59) #[.int .u64 0,.int .u8 0,.bool false] 56) #[.int .i64 (O:Int),.int .i64 (P:Int)] 113).drew=Q)
 case first=>
  go_region_held3(λw'=>(w' (aD w 2)=some (.int .u64 a)/\w' (aD w 3)=some (.int .u64 b)))
   (first
    |(refine⟨?_,?_⟩<;>(go_simp;done))
    |go_keep)
   (first
    |(go_at_call_of 42 (Value.int IntKind.u64 a);refine gW (Ka.out _) ?_)
    |(go_at_call_of 42 (Value.int IntKind.u64 b);refine gW (Kb.out _) ?_))
  all_goals(go_wp2_with fail;go_meet;exact⟨rfl,rfl⟩)
 obtain⟨rfl,rfl⟩:=hcut;have J2:RB w m a b c (aC (aC (aC w #[.int .u8 op,.int .u8 m,.int .u64 a,.int .u64 b,.int .u64 c] 59) #[.int .u64 0,.int .u8 0,.bool false] 56) #[.int .i64 (O:Int),.int .i64 P] 113):=((aeG op).alloc _);have eo:RB w m a b c (aC (aC (aC w #[.int .u8 op,.int .u8 m,.int .u64 a,.int .u64 b,.int .u64 c] 59) #[.int .u64 0,.int .u8 0,.bool false] 56) #[.int .i64 (O:Int),.int .i64 P] 113).drew:=((aeG op).alloc _).drew;go_upto_region 6 with(fail);go_cut[4,5] (λs5 s6 Q=>∃g i:Nat,s5=pT g 0/\s6=pT i 0/\NB Q g H F D false/\NB Q i I G E false/\RB w m a b c Q)
 case first=>
  go_region_held3(λw'=>(w' (aD w 1)=some (.int .u8 m)/\w' (aD w 2)=some (.int .u64 a)/\w' (aD w 3)=some (.int .u64 b)/\w' (aD w 4)=some (.int .u64 c)))
   (first
    |with_reducible exact j8
    |with_reducible exact j9
    |with_reducible exact eo.1
    |(refine⟨?_,?_,?_,?_⟩<;>(go_simp;done))
    |go_keep)
   (first
    |(go_at_call_of 141 (Value.int IntKind.u64 a);refine gB (Ua.out _) λU d=>?_;have dP:RB w m a b c U:=aeE rb1 d;have kh:=dP;obtain⟨j9,⟨qk,qi,qg⟩,⟨qu,qo,qm⟩,_⟩:=kh;have aJ:=d.size;(try simp at aJ);have afk:(w:Nat)+1<U:=oM;have afi:(w:Nat)<U:=oM;(try((first|have fA:=aeH (aeR) d|have fA:=aeH (aeP (aeR)) d|have fA:=aeH (aeP (aeP (aeR))) d);(try simp at fA);have As:=fA.lt;have iX:=fA;obtain⟨⟨j,k,o,p,q,t,u⟩,v,x,y,z,A,B,C⟩:=fA));(try((first|have fx:=aeH (aeQ aeR _) d|have fx:=aeH (aeP (aeQ aeR _)) d|have fx:=aeH (aeP (aeP (aeQ aeR _))) d);(try simp at fx);have Ao:=fx.lt;have iV:=fx;obtain⟨⟨j,k,o,p,q,t,u⟩,v,x,y,z,A,B,C⟩:=fx));(try((first|have be:=aeH iW d|have be:=aeH (aeQ iW _) d|have be:=aeH (aeQ (aeQ iW _) _) d);(try simp at be);have o6:=be.lt;have si:=be;obtain⟨⟨j,k,o,p,q,t,u⟩,v,x,y,z,A,B,C⟩:=be));(try((first|have bc:=aeH iT d|have bc:=aeH (aeQ iT _) d|have bc:=aeH (aeQ (aeQ iT _) _) d);(try simp at bc);have o4:=bc.lt;have se:=bc;obtain⟨⟨j,k,o,p,q,t,u⟩,v,x,y,z,A,B,C⟩:=bc)))
    |(go_at_call_of 141 (Value.int IntKind.u64 b);refine gB (Ub.out _) λV f=>?_;have fT:RB w m a b c V:=aeE rb1 f;have kg:=fT;obtain⟨j8,⟨qj,qh,qf⟩,⟨qp,qn,ql⟩,_⟩:=kg;have aU:=f.size;(try simp at aU);have afj:(w:Nat)+1<V:=oM;have afh:(w:Nat)<V:=oM;(try((first|have fy:=aeH (aeR) f|have fy:=aeH (aeP (aeR)) f|have fy:=aeH (aeP (aeP (aeR))) f);(try simp at fy);have Ap:=fy.lt;have iW:=fy;obtain⟨⟨j,k,o,p,q,t,u⟩,v,x,y,z,A,B,C⟩:=fy));(try((first|have fw:=aeH (aeQ aeR _) f|have fw:=aeH (aeP (aeQ aeR _)) f|have fw:=aeH (aeP (aeP (aeQ aeR _))) f);(try simp at fw);have Am:=fw.lt;have iT:=fw;obtain⟨⟨j,k,o,p,q,t,u⟩,v,x,y,z,A,B,C⟩:=fw));(try((first|have bf:=aeH iX f|have bf:=aeH (aeQ iX _) f|have bf:=aeH (aeQ (aeQ iX _) _) f);(try simp at bf);have o7:=bf.lt;have sj:=bf;obtain⟨⟨j,k,o,p,q,t,u⟩,v,x,y,z,A,B,C⟩:=bf));(try((first|have bd:=aeH iV f|have bd:=aeH (aeQ iV _) f|have bd:=aeH (aeQ (aeQ iV _) _) f);(try simp at bd);have o5:=bd.lt;have sf:=bd;obtain⟨⟨j,k,o,p,q,t,u⟩,v,x,y,z,A,B,C⟩:=bd))))
  all_goals
   go_wp2_with fail
   go_meet;refine⟨_,_,rfl,rfl,?_,?_,by repeat'(first|with_reducible assumption|with_reducible refine RB.drew ?_|with_reducible refine aeF ?_ _|with_reducible refine RB.put7 ?_ oM _ _ _ _ _ _ _)⟩
   .repeat'(first|with_reducible assumption|with_reducible refine NB.put7 (n:=false) (e:=0) (s:=0) (l:=false) ?_|with_reducible refine NB.far7 ?_ oM _ _ _ _ _ _ _|with_reducible exact aeT (by first|rfl|(simp;done))|with_reducible exact aeU (by first|rfl|(simp;done))|with_reducible refine aeQ ?_ _|with_reducible refine aeP ?_)
   repeat'(first|with_reducible assumption|with_reducible refine NB.put7 (n:=false) (e:=0) (s:=0) (l:=false) ?_|with_reducible refine NB.far7 ?_ oM _ _ _ _ _ _ _|with_reducible exact aeT (by first|rfl|(simp;done))|with_reducible exact aeU (by first|rfl|(simp;done))|with_reducible refine aeQ ?_ _|with_reducible refine aeP ?_)
 obtain⟨g,i,rfl,rfl,X,Y,hK⟩:=hcut;clear eo J2 Ka Kb Ua Ub;have S:w+1≠g:=λe=>by have h:=X.1.1;rw[<-e,hK.2.1.1]at h;exact absurd h sM
 have T:w+1≠i:=λe=>by have h:=Y.1.1;rw[<-e,hK.2.1.1]at h;exact absurd h sM
 have hl5:=X.lt;have hl6:=Y.lt;have uW:=And.intro hK.1 (And.intro X.1 Y.1);go_upto_region 7 with(fail)
 go_region_held3(λw'=>((w' (aD w 1)=some (.int .u8 m)/\w' (aD w 2)=some (.int .u64 a)/\w' (aD w 3)=some (.int .u64 b)/\w' (aD w 4)=some (.int .u64 c))/\(w' (aD g 0)=Value.bool (H)/\w' (aD g 1)=some (Value.int .i64 (F))/\w' (aD g 2)=some (Value.int .u64 (wd 0 (D)))/\w' (aD g 3)=some (Value.int .u64 (wd 1 (D)))/\w' (aD g 4)=some (Value.int .u64 (wd 2 (D)))/\w' (aD g 5)=some (Value.int .u64 (wd 3 (D)))/\w' (aD g 6)=Value.bool (false))/\(w' (aD i 0)=Value.bool (I)/\w' (aD i 1)=some (Value.int .i64 (G))/\w' (aD i 2)=some (Value.int .u64 (wd 0 (E)))/\w' (aD i 3)=some (Value.int .u64 (wd 1 (E)))/\w' (aD i 4)=some (Value.int .u64 (wd 2 (E)))/\w' (aD i 5)=some (Value.int .u64 (wd 3 (E)))/\w' (aD i 6)=Value.bool (false))))
  (first
   |with_reducible exact JS
   |with_reducible exact Ia JS oM S T _ _ _
   |with_reducible exact GN
   |with_reducible exact JU
   |with_reducible exact CN
   |with_reducible exact CO
   |with_reducible exact uW
   |go_keep)
  (first
   |(go_at_call 143;refine gB (R.out _) λZ J=>?_;have aa:NB Z g H F D false:=aeH nB J;have ab:NB Z i I G E false:=aeH nB J;have J0:RB w m a b c Z:=aeE rb1 J;have P8:=J0;obtain⟨P3,⟨Ul,Ui,Uf⟩,⟨Uu,Ur,Uo⟩,_⟩:=P8;have JS:=And.intro P3 (And.intro aa.1 ab.1))
   |(go_at_call 146;refine gB (Ro.out _) λw6 K=>?_;have p_6:NB w6 g H F D false:=aeH nB K;have o_6:NB w6 i I G E false:=aeH nB K;have GO:RB w m a b c w6:=aeE rb1 K;have JY:=GO;obtain⟨JV,⟨OE,OC,OA⟩,⟨OK,OI,OG⟩,_⟩:=JY;have GN:=And.intro JV (And.intro p_6.1 o_6.1))
   |(go_at_call 148;refine gB (PL.out _) λw5 L=>?_;have p_5:NB w5 g H F D false:=aeH nB L;have o_5:NB w5 i I G E false:=aeH nB L;have J1:RB w m a b c w5:=aeE rb1 L;have JZ:=J1;obtain⟨JW,⟨OF,OD,OB⟩,⟨OL,OJ,OH⟩,_⟩:=JZ;have JU:=And.intro JW (And.intro p_5.1 o_5.1))
   |(go_at_call_of 142 (Value.int IntKind.i64 F);refine gB (Ta.out _) λw3 M=>?_;have p_3:NB w3 g H F D false:=aeH nB M;have o_3:NB w3 i I G E false:=aeH nB M;have CR:RB w m a b c w3:=aeE rb1 M;have Qa:=CR;obtain⟨P7,⟨Un,Uk,Uh⟩,⟨Uw,Ut,Uq⟩,_⟩:=Qa;have CO:=And.intro P7 (And.intro p_3.1 o_3.1))
   |(go_at_call_of 142 (Value.int IntKind.i64 G);refine gB (Tb.out _) λw4 N=>?_;have p_4:NB w4 g H F D false:=aeH nB N;have o_4:NB w4 i I G E false:=aeH nB N;have CQ:RB w m a b c w4:=aeE rb1 N;have P9:=CQ;obtain⟨P4,⟨Um,Uj,Ug⟩,⟨Uv,Us,Up⟩,_⟩:=P9;have CN:=And.intro P4 (And.intro p_4.1 o_4.1)))
 all_goals
  go_wp2_with fail
  refine bR ⟨rfl,?_⟩;exact J0.laid _ _ _
def Gx(op m a b c O:Nat)(Ka:PC 42 #[.int .u64 a] (.int .i64 0))(Kb:PC 42 #[.int .u64 b] (.int .i64 (O:Int)))(H I np lp l:Bool)(F G fa fb ep h:Int)(D E ta tb sp r bt fl:Nat)(Ua:BC 141 #[.int .u64 a] (NV H F D false))(Ub:BC 141 #[.int .u64 b] (NV I G E false))(Ta:BC 142 #[NV H F D false,NV H F D false] (NV false fa ta false))(Tb:BC 142 #[NV I G E false,NV I G E false] (NV false fb tb false))(PL:BC 148 #[NV false fa ta false,NV false fb tb false] (NV np ep sp lp))
 (Ro:BC 146 #[NV np ep sp lp] (NV false h r l))(R:Hid (∀W,Bf prog 143 #[NV false h r l,.int .u8 m] W (ai bt fl false W)))(hkb0:((O:Int)==0)=false)(hkb3:((O:Int)==3)=false)(w:AK):
 Bf prog 138 #[REC op m a b c] w (ai bt fl false w):=by
 go_enter func138,ntmps138;go_upto_region 2 with(fail);go_cut[3] (λs P=>s=pT (w+1+1) 0/\(aC (aC (aC w #[.int .u8 op,.int .u8 m,.int .u64 a,.int .u64 b,.int .u64 c] 59) #[.int .u64 0,.int .u8 0,.bool false] 56) #[.int .i64 0,.int .i64 (O:Int)] 113).drew=P)
 case first=>
  go_region_held3(λw'=>(w' (aD w 2)=some (.int .u64 a)/\w' (aD w 3)=some (.int .u64 b)))
   (first
    |(refine⟨?_,?_⟩<;>(go_simp;done))
    |go_keep)
   (first
    |(go_at_call_of 42 (Value.int IntKind.u64 a);refine gW (Ka.out _) ?_)
    |(go_at_call_of 42 (Value.int IntKind.u64 b);refine gW (Kb.out _) ?_))
  all_goals(go_wp2_with fail;go_meet;exact⟨rfl,rfl⟩)
 obtain⟨rfl,rfl⟩:=hcut;have J2:RB w m a b c (aC (aC (aC w #[.int .u8 op,.int .u8 m,.int .u64 a,.int .u64 b,.int .u64 c] 59) #[.int .u64 0,.int .u8 0,.bool false] 56) #[.int .i64 0,.int .i64 O] 113):=((aeG op).alloc _);have eo:RB w m a b c (aC (aC (aC w #[.int .u8 op,.int .u8 m,.int .u64 a,.int .u64 b,.int .u64 c] 59) #[.int .u64 0,.int .u8 0,.bool false] 56) #[.int .i64 0,.int .i64 O] 113).drew:=((aeG op).alloc _).drew;go_upto_region 6 with(fail);go_cut[4,5] (λs5 s6 P=>∃g i:Nat,s5=pT g 0/\s6=pT i 0/\NB P g H F D false/\NB P i I G E false/\RB w m a b c P)
 case first=>
  go_region_held3(λw'=>(w' (aD w 1)=some (.int .u8 m)/\w' (aD w 2)=some (.int .u64 a)/\w' (aD w 3)=some (.int .u64 b)/\w' (aD w 4)=some (.int .u64 c)))
   (first
    |with_reducible exact j8
    |with_reducible exact j9
    |with_reducible exact eo.1
    |(refine⟨?_,?_,?_,?_⟩<;>(go_simp;done))
    |go_keep)
   (first
    |(go_at_call_of 141 (Value.int IntKind.u64 a);refine gB (Ua.out _) λT d=>?_;have dP:RB w m a b c T:=aeE rb1 d;have kh:=dP;obtain⟨j9,⟨qk,qi,qg⟩,⟨qu,qo,qm⟩,_⟩:=kh;have aJ:=d.size;(try simp at aJ);have afk:(w:Nat)+1<T:=oM;have afi:(w:Nat)<T:=oM;(try((first|have fA:=aeH (aeR) d|have fA:=aeH (aeP (aeR)) d|have fA:=aeH (aeP (aeP (aeR))) d);(try simp at fA);have As:=fA.lt;have iX:=fA;obtain⟨⟨j,k,o,p,q,t,u⟩,v,x,y,z,A,B,C⟩:=fA));(try((first|have fx:=aeH (aeQ aeR _) d|have fx:=aeH (aeP (aeQ aeR _)) d|have fx:=aeH (aeP (aeP (aeQ aeR _))) d);(try simp at fx);have Ao:=fx.lt;have iV:=fx;obtain⟨⟨j,k,o,p,q,t,u⟩,v,x,y,z,A,B,C⟩:=fx));(try((first|have be:=aeH iW d|have be:=aeH (aeQ iW _) d|have be:=aeH (aeQ (aeQ iW _) _) d);(try simp at be);have o6:=be.lt;have si:=be;obtain⟨⟨j,k,o,p,q,t,u⟩,v,x,y,z,A,B,C⟩:=be));(try((first|have bc:=aeH iT d|have bc:=aeH (aeQ iT _) d|have bc:=aeH (aeQ (aeQ iT _) _) d);(try simp at bc);have o4:=bc.lt;have se:=bc;obtain⟨⟨j,k,o,p,q,t,u⟩,v,x,y,z,A,B,C⟩:=bc)))
    |(go_at_call_of 141 (Value.int IntKind.u64 b);refine gB (Ub.out _) λU f=>?_;have fT:RB w m a b c U:=aeE rb1 f;have kg:=fT;obtain⟨j8,⟨qj,qh,qf⟩,⟨qp,qn,ql⟩,_⟩:=kg;have aU:=f.size;(try simp at aU);have afj:(w:Nat)+1<U:=oM;have afh:(w:Nat)<U:=oM;(try((first|have fy:=aeH (aeR) f|have fy:=aeH (aeP (aeR)) f|have fy:=aeH (aeP (aeP (aeR))) f);(try simp at fy);have Ap:=fy.lt;have iW:=fy;obtain⟨⟨j,k,o,p,q,t,u⟩,v,x,y,z,A,B,C⟩:=fy));(try((first|have fw:=aeH (aeQ aeR _) f|have fw:=aeH (aeP (aeQ aeR _)) f|have fw:=aeH (aeP (aeP (aeQ aeR _))) f);(try simp at fw);have Am:=fw.lt;have iT:=fw;obtain⟨⟨j,k,o,p,q,t,u⟩,v,x,y,z,A,B,C⟩:=fw));(try((first|have bf:=aeH iX f|have bf:=aeH (aeQ iX _) f|have bf:=aeH (aeQ (aeQ iX _) _) f);(try simp at bf);have o7:=bf.lt;have sj:=bf;obtain⟨⟨j,k,o,p,q,t,u⟩,v,x,y,z,A,B,C⟩:=bf));(try((first|have bd:=aeH iV f|have bd:=aeH (aeQ iV _) f|have bd:=aeH (aeQ (aeQ iV _) _) f);(try simp at bd);have o5:=bd.lt;have sf:=bd;obtain⟨⟨j,k,o,p,q,t,u⟩,v,x,y,z,A,B,C⟩:=bd))))
  all_goals
   go_wp2_with fail
   go_meet;refine⟨_,_,rfl,rfl,?_,?_,by repeat'(first|with_reducible assumption|with_reducible refine RB.drew ?_|with_reducible refine aeF ?_ _|with_reducible refine RB.put7 ?_ oM _ _ _ _ _ _ _)⟩
   .repeat'(first|with_reducible assumption|with_reducible refine NB.put7 (n:=false) (e:=0) (s:=0) (l:=false) ?_|with_reducible refine NB.far7 ?_ oM _ _ _ _ _ _ _|with_reducible exact aeT (by first|rfl|(simp;done))|with_reducible exact aeU (by first|rfl|(simp;done))|with_reducible refine aeQ ?_ _|with_reducible refine aeP ?_)
   repeat'(first|with_reducible assumption|with_reducible refine NB.put7 (n:=false) (e:=0) (s:=0) (l:=false) ?_|with_reducible refine NB.far7 ?_ oM _ _ _ _ _ _ _|with_reducible exact aeT (by first|rfl|(simp;done))|with_reducible exact aeU (by first|rfl|(simp;done))|with_reducible refine aeQ ?_ _|with_reducible refine aeP ?_)
 obtain⟨g,i,rfl,rfl,V,X,hK⟩:=hcut;clear eo J2 Ka Kb Ua Ub;have Q:w+1≠g:=λe=>by have h:=V.1.1;rw[<-e,hK.2.1.1]at h;exact absurd h sM
 have S:w+1≠i:=λe=>by have h:=X.1.1;rw[<-e,hK.2.1.1]at h;exact absurd h sM
 have hl5:=V.lt;have hl6:=X.lt;have uW:=And.intro hK.1 (And.intro V.1 X.1);go_upto_region 7 with(fail)
 go_region_held3(λw'=>((w' (aD w 1)=some (.int .u8 m)/\w' (aD w 2)=some (.int .u64 a)/\w' (aD w 3)=some (.int .u64 b)/\w' (aD w 4)=some (.int .u64 c))/\(w' (aD g 0)=Value.bool (H)/\w' (aD g 1)=some (Value.int .i64 (F))/\w' (aD g 2)=some (Value.int .u64 (wd 0 (D)))/\w' (aD g 3)=some (Value.int .u64 (wd 1 (D)))/\w' (aD g 4)=some (Value.int .u64 (wd 2 (D)))/\w' (aD g 5)=some (Value.int .u64 (wd 3 (D)))/\w' (aD g 6)=Value.bool (false))/\(w' (aD i 0)=Value.bool (I)/\w' (aD i 1)=some (Value.int .i64 (G))/\w' (aD i 2)=some (Value.int .u64 (wd 0 (E)))/\w' (aD i 3)=some (Value.int .u64 (wd 1 (E)))/\w' (aD i 4)=some (Value.int .u64 (wd 2 (E)))/\w' (aD i 5)=some (Value.int .u64 (wd 3 (E)))/\w' (aD i 6)=Value.bool (false))))
  (first
   |with_reducible exact JS
   |with_reducible exact Ia JS oM Q S _ _ _
   |with_reducible exact GN
   |with_reducible exact JU
   |with_reducible exact CN
   |with_reducible exact CO
   |with_reducible exact uW
   |go_keep)
  (first
   |(go_at_call 143;refine gB (R.out _) λY J=>?_;have Z:NB Y g H F D false:=aeH nB J;have aa:NB Y i I G E false:=aeH nB J;have J0:RB w m a b c Y:=aeE rb1 J;have P8:=J0;obtain⟨P3,⟨Ul,Ui,Uf⟩,⟨Uu,Ur,Uo⟩,_⟩:=P8;have JS:=And.intro P3 (And.intro Z.1 aa.1))
   |(go_at_call 146;refine gB (Ro.out _) λw6 K=>?_;have p_6:NB w6 g H F D false:=aeH nB K;have o_6:NB w6 i I G E false:=aeH nB K;have GO:RB w m a b c w6:=aeE rb1 K;have JY:=GO;obtain⟨JV,⟨OE,OC,OA⟩,⟨OK,OI,OG⟩,_⟩:=JY;have GN:=And.intro JV (And.intro p_6.1 o_6.1))
   |(go_at_call 148;refine gB (PL.out _) λw5 L=>?_;have p_5:NB w5 g H F D false:=aeH nB L;have o_5:NB w5 i I G E false:=aeH nB L;have J1:RB w m a b c w5:=aeE rb1 L;have JZ:=J1;obtain⟨JW,⟨OF,OD,OB⟩,⟨OL,OJ,OH⟩,_⟩:=JZ;have JU:=And.intro JW (And.intro p_5.1 o_5.1))
   |(go_at_call_of 142 (Value.int IntKind.i64 F);refine gB (Ta.out _) λw3 M=>?_;have p_3:NB w3 g H F D false:=aeH nB M;have o_3:NB w3 i I G E false:=aeH nB M;have CR:RB w m a b c w3:=aeE rb1 M;have Qa:=CR;obtain⟨P7,⟨Un,Uk,Uh⟩,⟨Uw,Ut,Uq⟩,_⟩:=Qa;have CO:=And.intro P7 (And.intro p_3.1 o_3.1))
   |(go_at_call_of 142 (Value.int IntKind.i64 G);refine gB (Tb.out _) λw4 N=>?_;have p_4:NB w4 g H F D false:=aeH nB N;have o_4:NB w4 i I G E false:=aeH nB N;have CQ:RB w m a b c w4:=aeE rb1 N;have P9:=CQ;obtain⟨P4,⟨Um,Uj,Ug⟩,⟨Uv,Us,Up⟩,_⟩:=P9;have CN:=And.intro P4 (And.intro p_4.1 o_4.1)))
 all_goals
  go_wp2_with fail
  refine bR ⟨rfl,?_⟩;exact J0.laid _ _ _
end
section
open Go.RowKit
variable{a b k:Nat}{h:Int}
def tH(a b:Nat):Nat:=val (exN a*exN a) (exE a+exE a)+val (exN b*exN b) (exE b+exE b)
def Al(m a b:Nat):Nat×Nat:=az m false (dO (tH a b)) (decide (dO (tH a b)*dO (tH a b)≠tH a b)) (-2500)
@[irreducible]noncomputable def ik(m a b:Nat):Nat×Nat:=
 if af a=3\/af b=3 then(9218868437227405312,0)else if af a=0/\af b=0 then(0,0)else Al m a b
def Em(a b:Nat):(fi false false (val (ay a*ay a) (bz a+bz a)) (val (ay b*ay b) (bz b+bz b))).2=tH a b:=by
 unfold fi;rw[ZC rfl];rw[val_mul,val_mul];rfl
def JP{m:Nat}{q:Bool×Int×Nat×Bool}(f:rn (fi false false (val (ay a*ay a) (bz a+bz a)) (val (ay b*ay b) (bz b+bz b))) q)(g:q.2.2.1≠0)(i:2*h=q.2.1-k)(c:108<=bl q.2.2.1+k)(d:k<=254):
 az m false (dO (q.2.2.1*2^k)) (decide (dO (q.2.2.1*2^k)*dO (q.2.2.1*2^k)≠q.2.2.1*2^k)||q.2.2.2) h=Al m a b:=by
 obtain⟨e,j,n,_⟩:=f;rw[Em]at e;have:=qS (m:=m) e oM g (λl=>by have:=j l;omega) i c d (dZ _) (dZ (tH a b));rw[aaW]at this;exact this
def MR{m n X:Nat}{e:Int}(f:val n e=tH a b)(g:n≠0)(p:-4000<=e)(i:2*h=e-k)(j:108<=k)(l:k<=254)(c:bA (n*2^k) X):
 az m false (mk2 X (true&&decide (X*X=n*2^k))) false (h-1)=Al m a b:=by
 have o:=bO (k:=k) g;have d:=dZ (tH a b);unfold Al;rw[<-f]at d⊢;rw[jy (k:=k) c oM,Bool.not_true,aaW];exact ic i oM oM c d
def Eo(h:exN a≠0\/exN b≠0):tH a b≠0:=by
 unfold tH val;rcases h with h|h
 .have:=abr (abr (aaK h) (aaK h)) (Zy (exE a+exE a+5000).toNat);omega
 have:=abr (abr (aaK h) (aaK h)) (Zy (exE b+exE b+5000).toNat);omega
def r5{x:Nat}(h:bl x<=53):bl (x*x)<=106:=by
 refine br.2 ?_;have c:x<2^53:=br.1 h;have d:x*x<2^53*2^53:=aaZ c c;rw[<-ZD]at d;exact d
end
section
open Go.RowKit
def oC(a:Nat)(W:AK):Bf prog 142 #[NV (aE a) (bz a) (ay a) false,NV (aE a) (bz a) (ay a) false] W λe w'=>e=.returned (NV false (bz a+bz a) (ay a*ay a) false)/\Np W W w':=by
 have:=pO (a:=a) (b:=a) W;rw[bne_self_eq_false]at this;exact this
def En(op m a b c:Nat)(t:m<5)(u:U64 a)(v:U64 b)(w:AK):Bf prog 138 #[REC op m a b c] w (ai (ik m a b).1 (ik m a b).2 false w):=by
 have d:=Zp (λW=>aX a W);have f:=Zp (λW=>aX b W);have E:=bC (x:=a);have F:=bC (x:=b);by_cases j:af a=3
 .have e:ik m a b=(9218868437227405312,0):=by unfold ik;rw[ZC (.inl j)]
  rw[e];rw[j]at d;exact CE op m a b c _ d f w
 by_cases o:af b=3
 .have e:ik m a b=(9218868437227405312,0):=by unfold ik;rw[ZC (.inr o)]
  rw[e];rw[o]at f;exact CC op m a b c _ d f (nef (n:=3) j) w
 by_cases p:af a=0/\af b=0
 .have e:ik m a b=(0,0):=by unfold ik;rw[Zr oM,ZC p]
  rw[e];rw[p.1]at d;rw[p.2]at f;exact JO op m a b c d f w
 have e:ik m a b=Al m a b:=by unfold ik;rw[Zr oM,Zr p]
 rw[e];have G:=aV a;have H:=aV b;have I:=r5 (kX a);have J:=r5 (kX b);have r:=zC (n1:=false) (n2:=false) (a:=ay a*ay a) (b:=ay b*ay b) (e1:=bz a+bz a) (e2:=bz b+bz b) oM oM oM oM;obtain⟨q1,K⟩:=zD (n1:=false) (n2:=false) (a:=ay a*ay a) (b:=ay b*ay b) (e1:=bz a+bz a) (e2:=bz b+bz b) oM oM oM oM;have B:=r.zero;have P:=λW=>zB false false (bz a+bz a) (bz b+bz b) (ay a*ay a) (ay b*ay b) oM oM oM oM oM oM W;generalize lv false false (ay a*ay a) (ay b*ay b) (bz a+bz a) (bz b+bz b)=q at*;have s:=r.2.1;have C:=r.2.2.1;have g:q.2.2.1≠0:=by
  rcases B.2 (by rw[Em];exact Eo oM)with h|h
  .exact h
  have:=s h;exact ey.1 oM
 obtain⟨k,h,D,L,M,y,i,z⟩:=nZ (n:=q.1) (l:=q.2.2.2) (e:=q.2.1) g oM oM oM;rw[<-JP (m:=m) r g D oM oM];by_cases A:af a=0
 .rw[A]at d;exact Gx op m a b c _ d f _ _ _ _ _ _ _ _ _ _ h _ _ _ _ _ _ _ _ (λW=>bu a u W) (λW=>bu b v W) (λW=>oC a W) (λW=>oC b W) P z (λW=>fD _ _ _ _ m y i t oM oM W) (nef (n:=0) oM) (nef (n:=3) o) w
 exact Gy op m a b c _ _ d f _ _ _ _ _ _ _ _ _ _ h _ _ _ _ _ _ _ _ (λW=>bu a u W) (λW=>bu b v W) (λW=>oC a W) (λW=>oC b W) P z (λW=>fD _ _ _ _ m y i t oM oM W) (nef (n:=0) A) (nef (n:=3) j) (nef (n:=3) o) w
end
section
open Go.RowKit
variable{n:Nat}
def BY{a:Nat}(b:exN a≠0):bl (ay a)=53:=by
 obtain⟨j,_,_,_,c⟩:=dw a;exact c b
def yV(op m a b c:Nat)(r:m<5)(s:U64 a)(w:AK):Bf prog 135 #[REC op m a b c] w (ai (dV m a).1 (dV m a).2 false w):=by
 have f:=Zp (λW=>aX a W);have v:=bC (x:=a);by_cases d:af a=0
 .have e:dV m a=(a,0):=by unfold dV;rw[ZC d]
  rw[e];rw[d]at f;exact O4 op m a b c f w
 cases g:aE a with
 |true=>
  have e:dV m a=(9221120237041090560,16):=by unfold dV;rw[Zr d,ZC g]
  rw[e];exact HX op m a b c _ f (nef (n:=0) d) ((eZ a).trans g) w
 |false=>
  by_cases i:af a=3
  ·(have e:dV m a=(a,0):=by unfold dV;rw[Zr d,Zr (by rw[g];decide),ZC i]);rw[e];rw[i]at f;exact HY op m a b c f ((eZ a).trans g) w
  have e:dV m a=vw m a:=by unfold dV;rw[Zr d,Zr (by rw[g];decide),Zr i]
  rw[e];have j:exN a≠0:=oM;have y:=BY j;have o:ay a≠0:=by rw[Ne,dR];exact j
  have z:=aV a;obtain⟨k,h,t,A,B,u,p,q⟩:=nZ (n:=aE a) (l:=false) (e:=bz a) o oM oM oM;rw[aaW]at q;rw[<-Fh j t oM oM (dZ _)];exact Lz op m a b c _ f _ _ _ _ _ _ _ _ (λW=>bu a s W) q (λW=>fD _ _ _ _ m u p r oM oM W) ((eZ a).trans g) (nef (n:=0) d) (nef (n:=3) i) w
def yA:au (2^252):=by unfold au;decide
def LF(W:AK):Bf prog 145 #[.agg #[iU 1,iU 0,iU 0,iU 0],iI 252] W λe w'=>e=.returned (W4 (2^252))/\Np W W w':=by
 have a:U64 1:=by unfold U64;decide
 have b:au 1:=by unfold au;decide
 have:=da 1 b 252 dC dC W;rw[show(252:Int).toNat=252 from rfl,js (by rw[aa5];exact yA),aa5,lK a]at this;exact this
def vF(op m a b c:Nat)(u:m<5)(o:U64 a)(w:AK):Bf prog 136 #[REC op m a b c] w (ai (cN m a).1 (cN m a).2 false w):=by
 have f:=Zp (λW=>aX a W);have C:=bC (x:=a);by_cases d:af a=0
 .have e:cN m a=(aF (aE a)+9218868437227405312,8):=by unfold cN;rw[ZC d]
  rw[e];rw[d]at f;have i:=ig (aE a) 9218868437227405312 oM;rw[<-kG o d]at i;rw[<-kG o d];exact LI op m a b c f _ i w
 cases g:aE a with
 |true=>
  have e:cN m a=(9221120237041090560,16):=by unfold cN;rw[Zr d,ZC g]
  rw[e];exact Fo op m a b c _ f (nef (n:=0) d) ((eZ a).trans g) w
 |false=>
  by_cases j:af a=3
  ·(have e:cN m a=(0,0):=by unfold cN;rw[Zr d,Zr (by rw[g];decide),ZC j]);rw[e];rw[j]at f;exact Fp op m a b c f ((eZ a).trans g) w
  have e:cN m a=pU m a:=by unfold cN;rw[Zr d,Zr (by rw[g];decide),Zr j]
  rw[e];have p:exN a≠0:=oM;have D:=BY p;have q:ay a≠0:=by rw[Ne,dR];exact p
  have r:U64 (ay a):=by have:=eX a;unfold U64;omega
  have E:=aV a;have s:2^252/ay a≠0:=by
   (have v:ay a<=2^252:=by have:=eX a;omega);have:=adO v (aaK q);omega
  have y:bl (2^252/ay a)<=253:=by
   refine Zz (e7 (aaM _ _)) ?_;rw[br];decide
  obtain⟨k,h,z,F,G,A,t,B⟩:=nZ (n:=false) (l:=decide (2^252%ay a≠0)) (e:=-252-bz a) s y oM oM;rw[<-B4 p z oM (dZ _)];exact If op m a b c _ f _ _ _ _ _ _ _ _ (2^252) _ _ _ (λW=>bu a o W) (λW=>LF W) (λW=>by rw[xa];exact EV _ _ yA r oM W) (ow oM oM) (bJ oM oM) B (λW=>fD _ _ _ _ m A t u oM oM W) ((eZ a).trans g) (nef (n:=0) d) (nef (n:=3) j) w
def ND(x:Nat):cb x=x*(x*x):=by unfold cb;rw[Z3]
def KA(c:au n)(a:n<2^186)(W:AK):Bf prog 147 #[W4 n] W λe w'=>e=.returned (.tuple #[iU (cbN n),.bool (decide (cbN n*(cbN n*cbN n)≠n))])/\Np W W w':=by
 refine(Lm n c a W).mono ?_;rintro e w'⟨x,rfl,b,a,f,d⟩;rw[ND]at b a⊢;have:x=cbN n:=EE ⟨b,a⟩ (ug n);subst this;exact⟨rfl,d⟩
def NF(b:n<2^186):U64 (cbN n):=by
 have c:=(ug n).1;unfold U64;refine Nat.lt_of_not_le λa=>?_;have d:=rZ a;have e:(2:Nat)^186<=18446744073709551616*(18446744073709551616*18446744073709551616):=dC;omega
def AX(op m a b c:Nat)(A:m<5)(B:U64 a)(w:AK):Bf prog 137 #[REC op m a b c] w (ai (fJ m a).1 (fJ m a).2 false w):=by
 have i:=Zp (λW=>aX a W);have G:=bC (x:=a);by_cases o:af a=3
 .have e:fJ m a=(a,0):=by unfold fJ;rw[ZC (.inl o)]
  rw[e];rw[o]at i;exact KI op m a b c i w
 by_cases g:af a=0
 .have e:fJ m a=(a,0):=by unfold fJ;rw[ZC (.inr g)]
  rw[e];rw[g]at i;exact Qp op m a b c i w
 have e:fJ m a=AY m a:=by unfold fJ;rw[Zr oM]
 rw[e];have p:exN a≠0:=oM;have H:=BY p;have l:ay a≠0:=by rw[Ne,dR];exact p
 have I:=aV a;obtain⟨k,u,C,v,D⟩:∃k:Nat,128<=k/\k<=130/\(bz a-k)%3=0/\(∀j:Nat,128<=j->j<k->(bz a-j)%3≠0):=by
  refine⟨128+((bz a-128)%3).toNat,oM,oM,oM,λj g y=>oM⟩
 obtain⟨h,E⟩:∃h:Int,h=(bz a-k)/3:=⟨_,rfl⟩;have F:bl (ay a*2^k)=bl (ay a)+k:=bO l;have d:ay a*2^k<2^186:=by
  have:=br (n:=ay a*2^k) (k:=186);exact this.1 oM
 have q:au (ay a*2^k):=Nat.lt_trans d dC;have r:au (ay a):=aam (abp _ (Zy k)) q;have z:=ug (ay a*2^k);have s:cbN (ay a*2^k)≠0:=KL z (by have:=abr (aaK l) (Zy k);omega);have f:=NF d;have t:au (cbN (ay a*2^k)):=by unfold U64 at f;unfold au;omega
 rw[<-G7 (h:=h) p oM u z];exact NC op m a b c _ k i _ (decide (cbN (ay a*2^k)*(cbN (ay a*2^k)*cbN (ay a*2^k))≠ay a*2^k)) _ h _ (ay a*2^k) (cbN (ay a*2^k)) _ _ (λW=>bu a B W) u C (λj g y=>oz (D j g y)) (lF v) (λj J=>bJ oM oM) (by rw[E];exact gZ v) (bJ oM oM)
  (λW=>by
   have:=da (ay a) r (k:Int) oM oM W;rw[aaB,js q]at this;exact this)
  (λW=>KA q d W)
  (λW=>by rw[<-Bp f];exact fD _ _ _ _ m t s A oM oM W) (nef (n:=0) g) (nef (n:=3) o) w
end
section
open Go.RowKit
def J9(op m a b c e:Nat)(f:PC 42 #[.int .u64 a] (.int .i64 3))(g:PC 42 #[.int .u64 b] (.int .i64 0))(h:PC 42 #[.int .u64 c] (.int .i64 (e:Int)))(w:AK):
 Bf prog 134 #[REC op m a b c] w (ai 9221120237041090560 16 false w):=by
 go_enter func134,ntmps134;go_upto_region 1 with(fail);go_cut[3] (λs i=>s=pT (w+1+1) 0/\(aC (aC (aC w #[.int .u8 op,.int .u8 m,.int .u64 a,.int .u64 b,.int .u64 c] 59) #[.int .u64 0,.int .u8 0,.bool false] 56) #[.int .i64 3,.int .i64 0] 113).drew=i)
 case first=>
  go_region_held3(λw'=>(w' (aD w 2)=some (.int .u64 a)/\w' (aD w 3)=some (.int .u64 b)))
   (first
    |(refine⟨?_,?_⟩<;>(go_simp;done))
    |go_keep)
   (first
    |(go_at_call_of 42 (Value.int IntKind.u64 a);refine gW (f.out _) ?_)
    |(go_at_call_of 42 (Value.int IntKind.u64 b);refine gW (g.out _) ?_))
  all_goals(go_wp2_with fail;go_meet;exact⟨rfl,rfl⟩)
 obtain⟨rfl,rfl⟩:=hcut;have eo:RB w m a b c (aC (aC (aC w #[.int .u8 op,.int .u8 m,.int .u64 a,.int .u64 b,.int .u64 c] 59) #[.int .u64 0,.int .u8 0,.bool false] 56) #[.int .i64 3,.int .i64 0] 113).drew:=((aeG op).alloc _).drew
 go_wp2_with(first|(go_at_call_of 42 (Value.int IntKind.u64 c);refine gW (h.out _) ?_)|(go_at_call 61;refine gB (cP _) λl d=>?_;obtain⟨j,k⟩:=de d))
 all_goals exact bR ⟨rfl,cB⟩
def J8(op m a b c e:Nat)(f:PC 42 #[.int .u64 a] (.int .i64 0))(g:PC 42 #[.int .u64 b] (.int .i64 3))(h:PC 42 #[.int .u64 c] (.int .i64 (e:Int)))(w:AK):
 Bf prog 134 #[REC op m a b c] w (ai 9221120237041090560 16 false w):=by
 go_enter func134,ntmps134;go_upto_region 1 with(fail);go_cut[3] (λs i=>s=pT (w+1+1) 0/\(aC (aC (aC w #[.int .u8 op,.int .u8 m,.int .u64 a,.int .u64 b,.int .u64 c] 59) #[.int .u64 0,.int .u8 0,.bool false] 56) #[.int .i64 0,.int .i64 3] 113).drew=i)
 case first=>
  go_region_held3(λw'=>(w' (aD w 2)=some (.int .u64 a)/\w' (aD w 3)=some (.int .u64 b)))
   (first
    |(refine⟨?_,?_⟩<;>(go_simp;done))
    |go_keep)
   (first
    |(go_at_call_of 42 (Value.int IntKind.u64 a);refine gW (f.out _) ?_)
    |(go_at_call_of 42 (Value.int IntKind.u64 b);refine gW (g.out _) ?_))
  all_goals(go_wp2_with fail;go_meet;exact⟨rfl,rfl⟩)
 obtain⟨rfl,rfl⟩:=hcut;have eo:RB w m a b c (aC (aC (aC w #[.int .u8 op,.int .u8 m,.int .u64 a,.int .u64 b,.int .u64 c] 59) #[.int .u64 0,.int .u8 0,.bool false] 56) #[.int .i64 0,.int .i64 3] 113).drew:=((aeG op).alloc _).drew
 go_wp2_with(first|(go_at_call_of 42 (Value.int IntKind.u64 c);refine gW (h.out _) ?_)|(go_at_call 61;refine gB (cP _) λl d=>?_;obtain⟨j,k⟩:=de d))
 all_goals exact bR ⟨rfl,cB⟩
def Qe(op m a b c e n:Nat)(o:PC 42 #[.int .u64 a] (.int .i64 3))(p:PC 42 #[.int .u64 b] (.int .i64 (e:Int)))(q:PC 42 #[.int .u64 c] (.int .i64 (n:Int)))(h:Nat)(u:Na .and .u64 (Na .xor .u64 (a:Int) (b:Int)) 9223372036854775808=h)(i:Nat)(v:Na .or .u64 (h:Int) 9218868437227405312=i)(j k:Nat)(r:Hid (∀W,Bf prog 130 #[.agg #[.int .u8 0,.int .u8 m,.int .u64 i,.int .u64 c,.int .u64 0]] W (ai j k false W)))(l:((e:Int)==0)=false)(w:AK):
 Bf prog 134 #[REC op m a b c] w (ai j k false w):=by
 go_enter func134,ntmps134;go_upto_region 1 with(fail);go_cut[3] (λs t=>s=pT (w+1+1) 0/\(aC (aC (aC w #[.int .u8 op,.int .u8 m,.int .u64 a,.int .u64 b,.int .u64 c] 59) #[.int .u64 0,.int .u8 0,.bool false] 56) #[.int .i64 3,.int .i64 (e:Int)] 113).drew=t)
 case first=>
  go_region_held3(λw'=>(w' (aD w 2)=some (.int .u64 a)/\w' (aD w 3)=some (.int .u64 b)))
   (first
    |(refine⟨?_,?_⟩<;>(go_simp;done))
    |go_keep)
   (first
    |(go_at_call_of 42 (Value.int IntKind.u64 a);refine gW (o.out _) ?_)
    |(go_at_call_of 42 (Value.int IntKind.u64 b);refine gW (p.out _) ?_))
  all_goals(go_wp2_with fail;go_meet;exact⟨rfl,rfl⟩)
 obtain⟨rfl,rfl⟩:=hcut;have eo:RB w m a b c (aC (aC (aC w #[.int .u8 op,.int .u8 m,.int .u64 a,.int .u64 b,.int .u64 c] 59) #[.int .u64 0,.int .u8 0,.bool false] 56) #[.int .i64 3,.int .i64 (e:Int)] 113).drew:=((aeG op).alloc _).drew
 go_wp2_with(go_at_call_of 42 (Value.int IntKind.u64 c);refine gW (q.out _) ?_)
 refine gB (r.out _) λx f=>?_;have d:=eo.step f;have g:=d;obtain⟨_,⟨y,z,A⟩,⟨f0,f1,f2⟩,_⟩:=g
 go_wp2_with fail
 refine bR ⟨rfl,?_⟩;exact d.laid _ _ _
def Qd(op m a b c d o:Nat)(p:PC 42 #[.int .u64 a] (.int .i64 (d:Int)))(q:PC 42 #[.int .u64 b] (.int .i64 3))(r:PC 42 #[.int .u64 c] (.int .i64 (o:Int)))(h:Nat)(v:Na .and .u64 (Na .xor .u64 (a:Int) (b:Int)) 9223372036854775808=h)(i:Nat)(x:Na .or .u64 (h:Int) 9218868437227405312=i)(j k:Nat)(t:Hid (∀W,Bf prog 130 #[.agg #[.int .u8 0,.int .u8 m,.int .u64 i,.int .u64 c,.int .u64 0]] W (ai j k false W)))(l:((d:Int)==0)=false)(n:((d:Int)==3)=false)(w:AK):
 Bf prog 134 #[REC op m a b c] w (ai j k false w):=by
 go_enter func134,ntmps134;go_upto_region 1 with(fail);go_cut[3] (λs u=>s=pT (w+1+1) 0/\(aC (aC (aC w #[.int .u8 op,.int .u8 m,.int .u64 a,.int .u64 b,.int .u64 c] 59) #[.int .u64 0,.int .u8 0,.bool false] 56) #[.int .i64 (d:Int),.int .i64 3] 113).drew=u)
 case first=>
  go_region_held3(λw'=>(w' (aD w 2)=some (.int .u64 a)/\w' (aD w 3)=some (.int .u64 b)))
   (first
    |(refine⟨?_,?_⟩<;>(go_simp;done))
    |go_keep)
   (first
    |(go_at_call_of 42 (Value.int IntKind.u64 a);refine gW (p.out _) ?_)
    |(go_at_call_of 42 (Value.int IntKind.u64 b);refine gW (q.out _) ?_))
  all_goals(go_wp2_with fail;go_meet;exact⟨rfl,rfl⟩)
 obtain⟨rfl,rfl⟩:=hcut;have eo:RB w m a b c (aC (aC (aC w #[.int .u8 op,.int .u8 m,.int .u64 a,.int .u64 b,.int .u64 c] 59) #[.int .u64 0,.int .u8 0,.bool false] 56) #[.int .i64 (d:Int),.int .i64 3] 113).drew:=((aeG op).alloc _).drew
 go_wp2_with(go_at_call_of 42 (Value.int IntKind.u64 c);refine gW (r.out _) ?_)
 refine gB (t.out _) λy f=>?_;have e:=eo.step f;have g:=e;obtain⟨_,⟨z,A,B⟩,⟨f0,f1,f2⟩,_⟩:=g
 go_wp2_with fail
 refine bR ⟨rfl,?_⟩;exact e.laid _ _ _
def Qg(op m a b c d e:Nat)(i:PC 42 #[.int .u64 a] (.int .i64 (d:Int)))(j:PC 42 #[.int .u64 b] (.int .i64 (e:Int)))(k:PC 42 #[.int .u64 c] (.int .i64 3))(g:((d:Int)==3)=false)(h:((e:Int)==3)=false)(w:AK):
 Bf prog 134 #[REC op m a b c] w (ai c 0 false w):=by
 go_enter func134,ntmps134;go_upto_region 1 with(fail);go_cut[3] (λs l=>s=pT (w+1+1) 0/\(aC (aC (aC w #[.int .u8 op,.int .u8 m,.int .u64 a,.int .u64 b,.int .u64 c] 59) #[.int .u64 0,.int .u8 0,.bool false] 56) #[.int .i64 (d:Int),.int .i64 (e:Int)] 113).drew=l)
 case first=>
  go_region_held3(λw'=>(w' (aD w 2)=some (.int .u64 a)/\w' (aD w 3)=some (.int .u64 b)))
   (first
    |(refine⟨?_,?_⟩<;>(go_simp;done))
    |go_keep)
   (first
    |(go_at_call_of 42 (Value.int IntKind.u64 a);refine gW (i.out _) ?_)
    |(go_at_call_of 42 (Value.int IntKind.u64 b);refine gW (j.out _) ?_))
  all_goals(go_wp2_with fail;go_meet;exact⟨rfl,rfl⟩)
 obtain⟨rfl,rfl⟩:=hcut;have eo:RB w m a b c (aC (aC (aC w #[.int .u8 op,.int .u8 m,.int .u64 a,.int .u64 b,.int .u64 c] 59) #[.int .u64 0,.int .u8 0,.bool false] 56) #[.int .i64 (d:Int),.int .i64 (e:Int)] 113).drew:=((aeG op).alloc _).drew
 go_wp2_with(first|(go_at_call_of 42 (Value.int IntKind.u64 c);refine gW (k.out _) ?_)|(go_at_call 61;refine gB (cP _) λp f=>?_;obtain⟨n,o⟩:=de f))
 all_goals exact bR ⟨rfl,cB⟩
def Qf(op m a b c d e k:Nat)(D:PC 42 #[.int .u64 a] (.int .i64 (d:Int)))(E:PC 42 #[.int .u64 b] (.int .i64 (e:Int)))(F:PC 42 #[.int .u64 c] (.int .i64 (k:Int)))(l n o ng:Bool)(p q r t:Int)(u v x sq y z:Nat)(G:BC 141 #[.int .u64 a] (NV l p u false))(H:BC 141 #[.int .u64 b] (NV n q v false))(I:BC 141 #[.int .u64 c] (NV o r x false))(T:BC 142 #[NV l p u false,NV n q v false] (NV ng t sq false))(R:Hid (∀W,Bf prog 140 #[NV ng t sq false,NV o r x false,.int .u8 m] W (ai y z false W)))(A:((d:Int)==3)=false)(B:((e:Int)==3)=false)(C:((k:Int)==3)=false)(w:AK):
 Bf prog 134 #[REC op m a b c] w (ai y z false w):=by
 go_enter func134,ntmps134;go_upto_region 1 with(fail);go_cut[3] (λs J=>s=pT (w+1+1) 0/\(aC (aC (aC w #[.int .u8 op,.int .u8 m,.int .u64 a,.int .u64 b,.int .u64 c] 59) #[.int .u64 0,.int .u8 0,.bool false] 56) #[.int .i64 (d:Int),.int .i64 (e:Int)] 113).drew=J)
 case first=>
  go_region_held3(λw'=>(w' (aD w 2)=some (.int .u64 a)/\w' (aD w 3)=some (.int .u64 b)))
   (first
    |(refine⟨?_,?_⟩<;>(go_simp;done))
    |go_keep)
   (first
    |(go_at_call_of 42 (Value.int IntKind.u64 a);refine gW (D.out _) ?_)
    |(go_at_call_of 42 (Value.int IntKind.u64 b);refine gW (E.out _) ?_))
  all_goals(go_wp2_with fail;go_meet;exact⟨rfl,rfl⟩)
 obtain⟨rfl,rfl⟩:=hcut;have eo:RB w m a b c (aC (aC (aC w #[.int .u8 op,.int .u8 m,.int .u64 a,.int .u64 b,.int .u64 c] 59) #[.int .u64 0,.int .u8 0,.bool false] 56) #[.int .i64 (d:Int),.int .i64 (e:Int)] 113).drew:=((aeG op).alloc _).drew;go_upto_region 9 with(go_at_call_of 42 (Value.int IntKind.u64 c);refine gW (F.out _) ?_)
 go_region_held3(λw'=>(w' (aD w 1)=some (.int .u8 m)/\w' (aD w 2)=some (.int .u64 a)/\w' (aD w 3)=some (.int .u64 b)/\w' (aD w 4)=some (.int .u64 c)))
  (first
   |exact Ux
   |exact JR
   |exact tI
   |exact j8
   |exact j9
   |exact eo.1
   |go_keep)
  (first
   |(go_at_call_of 141 (Value.int IntKind.u64 a);refine gB (G.out _) λK f=>?_;have dP:RB w m a b c K:=aeE rb1 f;have kh:=dP;obtain⟨j9,⟨qk,qi,qg⟩,⟨qu,qo,qm⟩,_⟩:=kh)
   |(go_at_call_of 141 (Value.int IntKind.u64 b);refine gB (H.out _) λL g=>?_;have fT:RB w m a b c L:=aeE rb1 g;have kg:=fT;obtain⟨j8,⟨qj,qh,qf⟩,⟨qp,qn,ql⟩,_⟩:=kg)
   |(go_at_call 142;refine gB (T.out _) λM h=>?_;have lx:RB w m a b c M:=aeE rb1 h;have tJ:=lx;obtain⟨tI,⟨CJ,CI,CH⟩,⟨CM,CL,CK⟩,_⟩:=tJ)
   |(go_at_call_of 141 (Value.int IntKind.u64 c);refine gB (I.out _) λN i=>?_;have Ep:RB w m a b c N:=aeE rb1 i;have JX:=Ep;obtain⟨JR,⟨PU,PT,PS⟩,⟨PY,PW,PV⟩,_⟩:=JX)
   |(go_at_call 140;refine gB (R.out _) λO j=>?_;have OM:RB w m a b c O:=aeE rb1 j;have Uy:=OM;obtain⟨Ux,⟨Wz,Wy,Wx⟩,⟨WC,WB,WA⟩,_⟩:=Uy))
 go_wp2_with fail
 refine bR ⟨rfl,?_⟩;exact OM.laid _ _ _
end
section
open Go.RowKit
def Ah(g:Bool):af (aF g+9218868437227405312)=3:=by cases g<;>decide
def Oz(g:Bool):U64 (aF g+9218868437227405312):=by cases g<;>(unfold U64;decide)
def Hf(a b:Nat):bl (ay a*ay b)<=106:=by
 have f:=aN (ay a);have g:=kX a;have i:=kX b;have c:=eX a;have d:=eX b;have j:ay a*ay b<=9007199254740992*9007199254740992:=aa0 oM oM;rcases aaq (ay a*ay b)with h|h
 .rw[h,gE];omega
 rw[br];have e:ay a*ay b<9007199254740992*9007199254740992:=aaZ c d;exact ZB e dC
def Er(op m a b c:Nat)(q:m<5)(r:U64 a)(s:U64 b)(t:U64 c)(B:af a<4)(C:af b<4)(x:af c<4)(w:AK):Bf prog 134 #[REC op m a b c] w (ai (kj m a b c).1 (kj m a b c).2 false w):=by
 have d:=Zp (λW=>aX a W);have f:=Zp (λW=>aX b W);have g:=Zp (λW=>aX c W);have u:=jP r s;have h:=ig (aE a !=aE b) 9218868437227405312 oM;have y:=Ah (aE a !=aE b);have l:=Oz (aE a !=aE b);by_cases o:af a=3/\af b=0
 .have e:kj m a b c=(9221120237041090560,16):=by unfold kj;rw[ZC (.inl o)]
  rw[e];rw[o.1]at d;rw[o.2]at f;exact J9 op m a b c _ d f g w
 by_cases p:af a=0/\af b=3
 .have e:kj m a b c=(9221120237041090560,16):=by unfold kj;rw[ZC (.inr p)]
  rw[e];rw[p.1]at d;rw[p.2]at f;exact J8 op m a b c _ d f g w
 have z:kj m a b c=if af a=3\/af b=3 then jO m (aF (aE a !=aE b)+9218868437227405312) c
  else if af c=3 then(c,0)
  else gU m (aE a !=aE b) (aE c) (val (exN a*exN b) (exE a+exE b)) (val (exN c) (exE c)):=by unfold kj;rw[Zr oM]
 rw[z];generalize A:aF (aE a !=aE b)+9218868437227405312=bi at*;have v:Hid (∀W,Bf prog 130 #[.agg #[qB 0,qB m,iU bi,iU c,iU 0]] W (ai (jO m bi c).1 (jO m bi c).2 false W)):=λW=>r7 0 m bi c 0 q l t oM x W;by_cases i:af a=3
 .rw[ZC (.inl i)];rw[i]at d;exact Qe op m a b c _ _ d f g _ u _ h _ _ v (nef (n:=0) oM) w
 by_cases j:af b=3
 .rw[ZC (.inr j)];rw[j]at f;exact Qd op m a b c _ _ d f g _ u _ h _ _ v (nef (n:=0) oM) (nef (n:=3) i) w
 rw[Zr oM];by_cases k:af c=3
 .rw[ZC k];rw[k]at g;exact Qg op m a b c _ _ d f g (nef (n:=3) i) (nef (n:=3) j) w
 rw[Zr k,<-val_mul,<-ox c];have D:=aV a;have E:=aV b;have F:=aV c;have d1:=Hf a b;have d2:=kX c;exact Qf op m a b c _ _ _ d f g _ _ _ _ _ _ _ _ _ _ _ _ _ _ (λW=>bu a r W) (λW=>bu b s W) (λW=>bu c t W) (λW=>pO W)
  (λW=>sN _ _ _ _ _ _ m q oM oM oM oM oM oM W) (nef (n:=3) i) (nef (n:=3) j) (nef (n:=3) k) w
end
end Go.Proofs.YtldmbneckcjonaaDoor
