/- Runs, where what it reads is of bulk at most 1048576: for every script the law returns true and leaves its argument as it was, on every tape, and nothing races. Condition: the table of operations is as the text of the program lays it, which the tie of the card shows. -/
import Derived.Test.YtldmbneckcjonaaDoorK13
set_option linter.defProp false
set_option linter.unusedVariables false
set_option linter.unusedSimpArgs false
set_option maxRecDepth 100000
set_option maxHeartbeats 8000000
noncomputable section
namespace Go.Proofs.YtldmbneckcjonaaDoor
open Go renaming World->AK,Value->Aq,Goroutine->Ar,Calls->Bf,undef->C0,Addr->Es,TypeId->E1,Program->E2,stepG->KC,Frame->K0,execOp->Lk,bits->Na,Event->Nc
open Go.RowKit renaming Below->Np,wrap64->Nq
open Go.Proofs.Tryd
open Go.RowKit
namespace T
open Go.Conc Go.ConcN
def RA:Array Oper:=#[{dst:=some 3,op:=.move (.tmp 0),type:=22,pos:= "law.go:190",after:=#[],guard:=none},{dst:=some 4,op:=.call {callee:=.value (.func 15),args:=#[.tmp 3],argTypes:=#[22]},type:=4,pos:= "law.go:190",after:=#[{on:=0,ground:=.data}],guard:=none},{dst:=some 2,op:=.assign (.tmp 4),type:=4,pos:= "law.go:190",after:=#[{on:=1,ground:=.data},{on:=1,ground:=.chain},{on:=0,ground:=.phase},{on:=1,ground:=.phase}],guard:=none}]
noncomputable def RB0:Code:=Tryd.f5.body.getD .skip
def RC:RB0=.seq (.region 0 #[{dst:=some 2,op:=.assign (.const (.bool false)),type:=4,pos:= "law.go:190",after:=#[],guard:=none}] false) (.seq (.region 1 RA false) .ret):=by kernel_rfl
def runs_way{W:AK}{A:Option Es}{cap:Nat}{ops:List Sop}{x:LR->Nat×Nat×Bool}(C:ga W)(p:OpsL W A ops)(r:SayO x ops):
 Way (Ln λv D=>v=.bool true/\Np W W D) (λ_=>False) (G (Frame.enter prog 5 #[.slice A ops cap] .normal) []) W:=by
 rw[aeo (c:=RB0) _ func5 rfl,RC];show Way _ _ (G ((base _).at ⟨#[.slice A ops cap,C0,C0,C0,C0],[]⟩ _) []) W
 refine .seq (.region ?_);refine ae7 (x:=.bool false) rfl rfl dC (λv=>by simp[Lk,Act.eval]) (λv=>by simp[Lk]) ?_;refine .region_end ?_
 show Way _ _ (G ((base _).at ⟨#[.slice A ops cap,C0,.bool false,C0,C0],[]⟩ _) []) W
 refine .seq (.region ?_);show Way _ _ (G ((base _).at ⟨#[.slice A ops cap,C0,.bool false,C0,C0],[]⟩ (.inRegion RA [0,1,2]::.code .ret::[])) []) W
 refine ae7 (x:=.slice A ops cap) (o:={dst:=some 3,op:=.move (.tmp 0),type:=22,pos:= "law.go:190",after:=#[],guard:=none}) rfl rfl dC (λv=>by simp[Lk,Act.eval]) (λv=>by simp[Lk]) ?_
 show Way _ _ (G ((base _).at ⟨#[.slice A ops cap,C0,.bool false,.slice A ops cap,C0],[]⟩ (.inRegion RA [1,2]::.code .ret::[])) []) W
 refine Way.enter (b:=base _) (o:={dst:=some 4,op:=.call {callee:=.value (.func 15),args:=#[.tmp 3],argTypes:=#[22]},type:=4,pos:= "law.go:190",after:=#[{on:=0,ground:=.data}],guard:=none}) rfl rfl dC rfl func15 rfl rfl (vals:=#[.slice A ops cap]) (by simp[Act.eval]) ?_
 refine Qj C p r ?_
 intro f Dd v E F H i I J K;rw[acG]
 show Way _ f (G ((base _).at ⟨#[.slice A ops cap,C0,.bool false,.slice A ops cap,.bool true],[]⟩ (.inRegion RA [2]::.code .ret::[])) []) v
 refine ae7 (x:=.bool true) (o:={dst:=some 2,op:=.assign (.tmp 4),type:=4,pos:= "law.go:190",after:=#[{on:=1,ground:=.data},{on:=1,ground:=.chain},{on:=0,ground:=.phase},{on:=1,ground:=.phase}],guard:=none}) rfl rfl dC (λv=>by simp[Lk,Act.eval]) (λv=>by simp[Lk]) ?_;refine .region_end ?_
 show Way _ f (G ((base _).at ⟨#[.slice A ops cap,C0,.bool true,.slice A ops cap,.bool true],[]⟩ (.code .ret::[])) []) v
 refine .ctl rfl (λv=>abQ) ?_
 intro n e L t q sl M
 have w:∀d,Np W W (n.at d):=λd=>⟨e.os.trans J,e.tape.trans I,e.out.trans K,by show (W:Nat)<=n;rw[e.heap];exact H,λk N=>by show n.heap[k]?=_;rw[e.heap];exact i k N⟩
 refine ⟨0,_,t,rfl,L,_,n,sl,q,_,f,rfl,M,rfl,λd=>⟨.bool true,?_,rfl,w d⟩⟩
 have j:∀v:AK,(results Tryd.f5 #[.slice A ops cap,C0,.bool true,.slice A ops cap,.bool true]).run prog v=.ok (.bool true) v:=λv=>by simp[results,Tryd.f5]
 have B:∀v:AK,(results Tryd.f5 #[.slice A ops cap,C0,.bool true,.slice A ops cap,.bool true]).events prog v #[]=#[]:=λv=>by simp[results,Tryd.f5]
 simp[KC,unwind,doReturn,G,Frame.at,base,func5,j,B,Go.Conc.seen_none,GStep.after]
end T
section
open Go.WideShapes Go.ChangeShapes Go.ChangeAt Go.Conc
def runs_lifted(u:Os)(b:u.Started)(H:Type)(e:E1×Aq->H)(F:Stop.Interp):
 ReturnsInLeavingWide {} checked u 5 .any ((Rows.OpenSpec.upto Rows.runsSpec).preRow e prog Tryd.f5 [] false Ei) (((Rows.OpenSpec.upto Rows.runsSpec).at F).post e prog Tryd.f5 false true false false):=by
 refine returnsInLeavingWide_of_good own b ⟨World.doorLaid prog 600 u,λ_ _=>0,⟨#[],#[.slice none 0 0],[]⟩,rfl,World.shaped_of_RefB (by kernel_rfl) (by kernel_rfl),rfl,(Input.okWide_of_okWideB (by kernel_rfl)).2,
  OpenSpec.preRow_of_cond (s:=Rows.OpenSpec.upto Rows.runsSpec) 8 (x:=([.nil],[],[])) (by kernel_rfl) (by kernel_rfl) (λk z=>by cases z;kernel_rfl) (by kernel_rfl) (Ko u _),by
   simp only[Assume.holds];exact⟨sM,sM,λ_=>Modest.zero,sM,sM⟩⟩ ?_
 intro w g i _ B _ C h _;obtain⟨_,_,_,fn',l,_,_,_,_,m⟩:=C;obtain rfl:fn'=Tryd.f5:=ZO (l.symm.trans func5);obtain⟨⟨D,M⟩,W⟩:=h;obtain⟨ds,X,y,O,Y,z⟩:=OpenSpec.pre_parts D;have n:=DataW.Whole.of_heap (w':=w.forCall g i) (by rfl) O;obtain⟨A,P,cap,c,_,E,G⟩:=JC (nm:= "runs") (f:=Tryd.f5) rfl rfl (λj t v I J=>.inr ⟨w,m j t v I J⟩) n;have p:=n;rw[c]at p;obtain⟨ops,rfl,q,K,Q⟩:=Pm (nm:= "runs") (f:=Tryd.f5) rfl p (z _ rfl);have L:=xk (M.of_heap (by rfl)) B;have d:=T.run_to_end (T.runs_way (cap:=cap) L K (Pc (kz L) q Q));rw[<-c]at d;obtain⟨N,r,o,w',R,I,J,S,U⟩:=d;refine⟨N,r,o,w',R,I,J,S,U.mono λv D=>?_⟩;obtain⟨rfl,V⟩:=D;exact ChangeSpec.post_blind (G w' V)
def runs_holds:Rows.RunsUptoSaid:=
 oa (s:=Rows.OpenSpec.upto Rows.runsSpec) 5 Tryd.f5 rfl rfl rfl rfl rfl rfl rfl ⟨rfl,rfl,rfl,rfl,rfl⟩ rfl rfl rfl rfl rfl (by kernel_rfl) func5 (by kernel_rfl)
  (aec (by kernel_rfl)) (by unfold Func.isWrapper;first|(rw[ZC (by decide+kernel)];kernel_rfl)|(rw[Zr (by decide+kernel)];exact⟨rfl,rfl⟩))
  (λc a H b _ F=>runs_lifted c a H b F)
theorem runs_card_holds:Rows.RunsUptoCardSaid:=
 rC .later [.funcs] true (true,"6c2333d7cfd43ffcebf9976d2fa59ef1805734a55d7131f269abed5f0ab20e77") false runs_holds (by kernel_rfl) runsUpto_row_tie rfl ⟨rfl,rfl⟩ (by kernel_rfl) rfl
  (λf fn e c=>by
   (obtain rfl:f=5:=ZO ((show prog.funcNamed "softfloat/softfloatlaw.Runs"=some 5 by kernel_rfl).symm.trans e)|>.symm);obtain rfl:fn=Tryd.f5:=(ZO (func5.symm.trans c)).symm;exact⟨by kernel_rfl,λj t d=>by
    have g:Tryd.f5.params=#[22]:=rfl;rw[g]at d;(have h:t∈[22]:=by simpa using ZS d);(have b:([22].all λu=>!prog.wantsStandIn u):=by kernel_rfl);exact(show prog.wantsStandIn t=false by simpa using acb.1 b t h)⟩)
  (by kernel_rfl)
end
#print axioms runs_card_holds
end Go.Proofs.YtldmbneckcjonaaDoor
