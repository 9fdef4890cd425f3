/- A part of the proof. -/
import Derived.Test.YtldmbneckcjonaaDoorK11
set_option linter.defProp false
set_option linter.unusedVariables false
set_option linter.unusedSimpArgs false
set_option maxRecDepth 100000
set_option maxHeartbeats 8000000
noncomputable section
namespace Go.Proofs.YtldmbneckcjonaaDoor
open Go renaming World->AK,Value->Aq,Goroutine->Ar,Calls->Bf,undef->C0,Addr->Es,TypeId->E1,Program->E2,stepG->KC,Frame->K0,execOp->Lk,bits->Na,Event->Nc
open Go.RowKit renaming Below->Np,wrap64->Nq
open Go.Proofs.Tryd
section
open Go.Conc Go.ConcN Go.RowKit Go.Conc.Lib Go.ConcR.Gen Go.ConcN.Gen
open Go.ConcR (KK wgBlock WgAt stA smA rd wr mk Payload DC0 ofEvent_cell)
variable{n:Nat}
section
variable{Sh:Loc->Prop}{L:Nat->Prop}{M:Nat->Prop}{w v:AK}{es:Array Nc}
def evL_cell{e:Nc}{a:Es}(h:∀l,Sh l->∃x,InB x l/\¬L x)(b:e.loc=.cell a)(d:L a.block)(f:a.block<n):EvL Sh n e:=by
 obtain⟨g,wr,m⟩:=e;simp only at b;subst b;refine⟨λx c i=>?_,sM,sM,f⟩;simp only[ack,MemAct.touch?,Zt]at c;subst c;obtain⟨y,j,k⟩:=h _ i;exact absurd (j.inj (j4 a)▸d) k
def rL:Code:=match mh with|.seq _ (.seq _ c)=>c|_=>.skip
noncomputable def tiL:TypeInfo:=(prog.info? 53).getD default
def HN:prog.info? 53=tiL:=by kernel_rfl
def HM:tiL.size=1:=by kernel_rfl
def pP:tiL.bytes=24:=by kernel_rfl
def yL:tiL.zero=some (.slice none 0 0):=by kernel_rfl
def Jr(a:n<=1048576)(v:AK):(Instr.makeSlice 43 (iI n) (iI n)).run prog v=.ok (qL v 0 n n) (v.alloc (.cells (Array.replicate n (.slice none 0 0)) 53 (0,0))):=by
 have h:=run_make (P:=prog) v 43 53 tiL _ underlying43 HN yL .i64 .i64 n n oM (Int.le_refl _) (by rw[pP];omega) oM;rw[h];have:madeCells (Value.cells (.slice none 0 0)) ((n:Int).toNat*tiL.size)=Array.replicate n (.slice none 0 0):=by
  rw[HM];apply Array.ext
  .simp[madeCells]
  intro i b c;simp[madeCells,Value.cells,acP]
 rw[this];simp
def MA(a:n<=1048576)(v:AK):(Instr.makeSlice 43 (iI n) (iI n)).events prog v #[]=#[]:=
 events_make v 43 53 tiL _ underlying43 HN yL .i64 .i64 n n oM (Int.le_refl _) (by rw[pP];omega) oM (by rw[pP];omega) _
def NK{E m:Nat}{D:Option Es}{cs:List K0}{Stop:Ar->(Nat->Prop)->AK->Prop}(F:n<=1048576)
 (r:∀l,Sh l->∃x,InB x l/\x<(w:Nat))
 (K:∀(w':AK)(N s t:Aq),(∀x,x<(w:Nat)->w'.heap[x]?=w.heap[x]?)->(w':Nat)=(w:Nat)+3->w'.heap[(w:Nat)]?=some (.cells #[pT E 0] 96 (0,0))->w'.heap[(w:Nat)+1]?=some (.cells (Array.replicate n (.slice none 0 0)) 53 (0,0))->w'.heap[(w:Nat)+2]?=some (.cells #[qL ((w:Nat)+1) 0 n n] 43 (0,0))->w'.tape=w.tape->w'.os=w.os->w'.output=w.output->
  ∀M',an prog true du (D1 Sh) Stop (G (b39.at ⟨#[pT E 0,.slice D n m,pT (w:Nat) 0,C0,.slice none 0 0,pT ((w:Nat)+2) 0,C0,C0,C0,N,s,t,C0,C0,C0,C0,C0,C0,C0,C0,C0,C0,C0,C0],[]⟩ [.code rL]) cs) M' w'):
 an prog true du (D1 Sh) Stop (G (Frame.enter prog 39 #[pT E 0,.slice D n m] .normal) cs) M w:=by
 have k:=bk;have h:∀(M:Nat->Prop)(v:AK),D1 Sh M v v #[]:=λM v=>D1.nil v;rw[aeo _ func39 rfl]
 walk_nrmf f39
 refine .ctl k rfl (λv _=>h _ v) (λv=>ZH) ?_;refine ck k (λv _=>h _ v) rfl (base_kind _) ?_;simp only[aah,Z6,aaA,Nat.reduceAdd,Z8,List.range,List.range.loop];have e1:w.heap=w.heap:=rfl;have e2:w.tape=w.tape:=rfl;have d:w.os=w.os:=rfl;have f:w.output=w.output:=rfl;refine aB rfl rfl λv a g c=>?_;replace e1:=(show v.heap=_ from a.more).trans e1;replace e2:=a.tape.trans e2;replace d:=a.os.trans d;replace f:=a.out.trans f;clear a;go_simp;refine c _ _ ⟨by rw[aaw (by simp[go_sem, *])];exact⟨sM,sM⟩,?_⟩;clear c g;replace e1:(v.alloc (.cells #[pT E 0] 96 (0,0))).heap=_:=(show(v.alloc _).heap=v.heap.push _ from rfl).trans (by rw[e1]);replace e2:(v.alloc (.cells #[pT E 0] 96 (0,0))).tape=_:=e2;replace d:(v.alloc (.cells #[pT E 0] 96 (0,0))).os=_:=d;replace f:(v.alloc (.cells #[pT E 0] 96 (0,0))).output=_:=f;generalize v.alloc _=H at e1 e2 d f⊢;generalize bP _ v _=I at⊢;refine aB rfl rfl λv a g c=>?_;replace e1:=(show v.heap=_ from a.more).trans e1;replace e2:=a.tape.trans e2;replace d:=a.os.trans d;replace f:=a.out.trans f;clear a;go_simp;refine c _ _ ⟨by rw[aaw (by simp[go_sem, *])];exact h _ _,?_⟩;clear c g;refine bL k (λv _=>h _ v) ?_;refine .ctl k rfl (λv _=>h _ v) (λv=>ZH) ?_;refine ck k (λv _=>h _ v) rfl (base_kind _) ?_;simp only[aah,Z6,aaA,Nat.reduceAdd,Z8,List.range,List.range.loop];refine aB rfl rfl λv a g c=>?_;replace e1:=(show v.heap=_ from a.more).trans e1;replace e2:=a.tape.trans e2;replace d:=a.os.trans d;replace f:=a.out.trans f;clear a;go_simp;refine c _ _ ⟨by rw[aaw (by simp[go_sem, *])];exact h _ _,?_⟩;clear c g;refine aB rfl rfl λv a g c=>?_;replace e1:=(show v.heap=_ from a.more).trans e1;replace e2:=a.tape.trans e2;replace d:=a.os.trans d;replace f:=a.out.trans f;clear a;go_simp;refine c _ _ ⟨by rw[aaw (by simp[go_sem, *])];exact h _ _,?_⟩;clear c g;refine aB rfl rfl λv a g c=>?_;replace e1:=(show v.heap=_ from a.more).trans e1;replace e2:=a.tape.trans e2;replace d:=a.os.trans d;replace f:=a.out.trans f;clear a;have u:=Jr F v;have y:=MA F v;go_simp;refine c _ _ ⟨⟨sM,λe z=>?_⟩,?_⟩
 .have q:=abf z;simp[go_sem, *]at q
 clear u y;clear c g;replace e1:(v.alloc (.cells (Array.replicate n (.slice none 0 0)) 53 (0,0))).heap=_:=(show(v.alloc _).heap=v.heap.push _ from rfl).trans (by rw[e1]);replace e2:(v.alloc (.cells (Array.replicate n (.slice none 0 0)) 53 (0,0))).tape=_:=e2;replace d:(v.alloc (.cells (Array.replicate n (.slice none 0 0)) 53 (0,0))).os=_:=d;replace f:(v.alloc (.cells (Array.replicate n (.slice none 0 0)) 53 (0,0))).output=_:=f;generalize v.alloc _=H at e1 e2 d f⊢;generalize bP _ v _=I at⊢;refine aB rfl rfl λv a g c=>?_;replace e1:=(show v.heap=_ from a.more).trans e1;replace e2:=a.tape.trans e2;replace d:=a.os.trans d;replace f:=a.out.trans f;clear a;go_simp;refine c _ _ ⟨by rw[aaw (by simp[go_sem, *])];exact⟨sM,sM⟩,?_⟩;clear c g;replace e1:(v.alloc (.cells #[.slice none 0 0] 43 (0,0))).heap=_:=(show(v.alloc _).heap=v.heap.push _ from rfl).trans (by rw[e1]);replace e2:(v.alloc (.cells #[.slice none 0 0] 43 (0,0))).tape=_:=e2;replace d:(v.alloc (.cells #[.slice none 0 0] 43 (0,0))).os=_:=d;replace f:(v.alloc (.cells #[.slice none 0 0] 43 (0,0))).output=_:=f;generalize v.alloc _=H at e1 e2 d f⊢;generalize bP _ v _=I at⊢;refine aB rfl rfl λv a g c=>?_;replace e1:=(show v.heap=_ from a.more).trans e1;replace e2:=a.tape.trans e2;replace d:=a.os.trans d;replace f:=a.out.trans f;clear a;have A:(v:Nat)=(w:Nat)+3:=by rw[e1];simp
 have j:v.heap[(w:Nat)+2]?=some (.cells #[.slice none 0 0] 43 (0,0)):=by rw[e1,aa6,ZC sM]
 have c0:cF v ((w:Nat)+2) 0 (.slice none 0 0):=by simp[World.cell?,j]
 have Q:fZ v ((w:Nat)+2) 0:=by simp[World.frozen?,j]
 have o:∀x,x<(w:Nat)->v.heap[x]?=w.heap[x]?:=λx J=>by
  rw[e1];simp only[aa6,abe];rw[Zr oM,Zr oM,Zr oM]
 have B:v.heap[(w:Nat)]?=some (.cells #[pT E 0] 96 (0,0)):=by
  rw[e1];simp only[aa6,abe];rw[Zr oM,Zr oM,ZC trivial]
 have C:v.heap[(w:Nat)+1]?=some (.cells (Array.replicate n (.slice none 0 0)) 53 (0,0)):=by
  rw[e1];simp only[aa6,abe];rw[Zr oM,ZC trivial]
 go_simp;have i:=asd (v:=v) (b:=(w:Nat)+2) 0 (qL ((w:Nat)+1) 0 n n);have p:=gh j 0 (qL ((w:Nat)+1) 0 n n);refine c _ _ ⟨⟨aaE i.size.symm,λe z=>?_⟩,?_⟩
 .have q:=abf z;simp[go_sem,storedEv, *]at q;subst q;refine evL_cell (L:=λb=>(w:Nat)<=b) (λl O=>?_) rfl (by show (w:Nat)<=(w:Nat)+2;omega) (by show (w:Nat)+2<_;rw[i.size];omega);obtain⟨x,P,R⟩:=r l O;exact⟨x,P,oM⟩
 clear c g;refine bL k (λv _=>h _ v) ?_;refine K _ _ _ _ (λx J=>(i.block x oM).trans (o x J)) (i.size.trans A) ((i.block _ oM).trans B) ((i.block _ oM).trans C) (by simpa using p) (i.tape.trans e2) (i.os.trans d) (i.output.trans f) _
end
end
section
open Go.Conc Go.ConcN Go.RowKit Go.Conc.Lib Go.ConcR.Gen Go.ConcN.Gen
open Go.ConcR (KK wgBlock WgAt stA smA rd wr mk Payload DC0 ofEvent_cell)
section
variable{P:E2}{K:bW}{Fz M:Nat->Prop}{g:Ar}{w:AK}{A A' B B':Ar->(Nat->Prop)->AK->Prop}
def Hn.mono(a:∀g M w,B g M w->B' g M w)(h:Hn P K B g M w):Hn P K B' g M w:=⟨h.1,let⟨g',h1,h2⟩:=h.2;⟨g',h1,a _ _ _ h2⟩⟩
def SKe.mono(a:∀g M w,B g M w->B' g M w)(h:SKe P K Fz B g M w):SKe P K Fz B' g M w:=⟨h.1,let⟨g',h1,h2⟩:=h.2;⟨g',h1,h2.mono (λ_ _ h=>h) (λ_ _ _ _ h=>h) λ_ _ _ h=>Hn.mono a h⟩⟩
def SW4.mono(a:∀g M w,B g M w->B' g M w)(h:SW4 P K Fz B g M w):SW4 P K Fz B' g M w:=⟨h.1,λb=>let⟨g',h1,h2⟩:=h.2 b;⟨g',h1,h2.mono (λ_ _ h=>h) (λ_ _ _ _ h=>h) λ_ _ _ h=>SKe.mono a h⟩⟩
def SW3.mono(a:∀g M w,B g M w->B' g M w)(h:SW3 P K Fz B g M w):SW3 P K Fz B' g M w:=⟨h.1,h.2.1,h.2.2.1,λb=>let⟨g',h1,h2⟩:=h.2.2.2 b;⟨g',h1,h2.mono (λ_ _ h=>h) (λ_ _ _ _ h=>h) λ_ _ _ h=>SW4.mono a h⟩⟩
def SW2.mono(d:∀g M w,A g M w->A' g M w)(f:∀g M w,B g M w->B' g M w){a:Nat}(h:SW2 P K Fz A B a g M w):SW2 P K Fz A' B' a g M w:=
 ⟨h.1,λv b c=>⟨λe=>let⟨g',h1,h2⟩:=(h.2 v b c).1 e;⟨g',h1,h2.mono (λ_ _ h=>h) (λ_ _ _ _ h=>h) λ_ _ _ h=>SW3.mono f h⟩,λe=>let⟨g',h1,h2⟩:=(h.2 v b c).2 e;⟨g',h1,h2.mono (λ_ _ h=>h) (λ_ _ _ _ h=>h) d⟩⟩⟩
def SW1.mono(b:∀g M w,A g M w->A' g M w)(a:∀g M w,B g M w->B' g M w)(h:SW1 P K Fz A B g M w):SW1 P K Fz A' B' g M w:=
 ⟨h.1,λv c d=>let⟨g',h1,h2,h3⟩:=h.2 v c d;⟨g',h1,λe=>(h2 e).mono (λ_ _ h=>h) (λ_ _ _ _ h=>h) λ_ _ _ h=>SKe.mono a h,λe=>(h3 e).mono (λ_ _ h=>h) (λ_ _ _ _ h=>h) λ_ _ _ h=>SW2.mono b a h⟩⟩
def SKd.mono(a:∀g M w,A g M w->A' g M w)(h:SKd P K Fz A g M w):SKd P K Fz A' g M w:=⟨h.1,let⟨g',h1,h2⟩:=h.2;⟨g',h1,h2.mono (λ_ _ h=>h) (λ_ _ _ _ h=>h) a⟩⟩
end
def n7:Array Oper:=match n6 with|.seq (.region _ ops _) _=>ops|_=>#[]
def xj:Code:=match n6 with|.seq _ c=>c|_=>.skip
structure OU(oB:Nat)(a:Act):Prop where
 df:a.defers=[]
 size:a.tmps.size=24
 t5:a.tmps[5]?=pT oB 0
def An(K:bW)(b:Nat)(cs:List K0)(g:Ar)(M:Nat->Prop)(w:AK):Prop:=∃a₀,OU b a₀/\AnW link K (b39.at a₀ (.inRegion n7 [0]::[.code xj])) cs g M w
def Af(b:Nat)(cs:List K0)(g:Ar)(M:Nat->Prop)(w:AK):Prop:=∃a₀,OU b a₀/\Q3 prog b39 a₀ n7 0 [] [.code xj] cs g M w
section
variable{K:bW}{s:Bt}{Fz M:Nat->Prop}{w:AK}{cs:List K0}{oB:Nat}
def An.run(g:Ar)(M:Nat->Prop)(w:AK)(h:An K oB cs g M w):g.status=.running:=by
 obtain⟨a,_,T,rfl,_⟩:=h;rfl
def An.goes(b:K.ty=link.tWg)(Fz:Nat->Prop)(g:Ar)(M:Nat->Prop)(w:AK)(h:An K oB cs g M w):an prog true (R0 K Fz) (D0 K Fz) (SW1 prog K Fz (An K oB cs) (Af oB cs)) g M w:=by
 obtain⟨a,c,h⟩:=h;exact(Rb vk b g w h).mono (λ_ _ h=>h) (λ_ _ _ _ h=>h) λg M w h=>SW1.mono (λg M w h=>⟨a,c,h⟩) (λg M w h=>⟨a,c,h⟩) h
def OY(a:K.ty=link.tWg){ve:Aq}(Fz:Nat->Prop)(w:AK)(y z A d i j k l m o p q r t:Aq)(h:BtF K s Fz w):
 cz prog K (An K s.oB cs) 0 Fz (G (b39.at ⟨ts K s ve K.n y z A d i j k l m o p q r t,[]⟩ [.code n6]) cs) w:=by
 show an prog true (R0 K Fz) (D0 K Fz) (SKd prog K Fz (An K s.oB cs)) _ (λ_=>False) w;have u:=aeW K Fz;have x:∀(M:Nat->Prop)(v:AK),D0 K Fz M v v #[]:=λM v=>ae5 v;have e:n6=.seq (.region 9 n7 false) xj:=by kernel_rfl
 rw[e];refine .ctl u rfl (λv _=>x _ v) (λv=>ZH) ?_;refine .ctl u rfl (λv _=>x _ v) (λv=>acU) ?_;have e2:n7.size=1:=by kernel_rfl
 rw[e2];simp only[List.range,List.range.loop];refine tL (fn':=waitFn link) (c:=body_wait link) (vals:=#[pT K.Wg 0]) u (λv _=>x _ v) (show n7[0]?=some (n7[0]?.getD default) by kernel_rfl) rfl eA (f:=link.wait) (args:=#[.tmp 6]) (ats:=#[102]) (by kernel_rfl) vk.f_wait (nm_wait link) rfl (by simp[Act.eval,ts]) ?_;refine(Bz (L:=link) (b₀:=b39) vk a w h.live).mono (λ_ _ h=>h) (λ_ _ _ _ h=>h) λg M w h=>SKd.mono (λg M w h=>⟨_,⟨rfl,rfl,rfl⟩,h⟩) h
def UE{t:Loc->Prop}{C n:Nat}{c:K0}{a:Ar}(h:Af oB (c::cs) a M w)(H:w (aD oB 0)=qL C 0 n n)(A:oB<w)(B:∀l,t l->∃x,InB x l/\x≠oB):
 an prog true du (D1 t) (λg _ v=>g=G (c.finish (qL C 0 n n)) cs/\v.heap=w.heap/\v.tape=w.tape/\v.os=w.os/\v.output=w.output) a (λ_=>False) w:=by
 have k:=bk;have j:∀(M:Nat->Prop)(v:AK),D1 t M v v #[]:=λM v=>D1.nil v;obtain⟨a₀,y,h⟩:=h;refine aen k (an.keepD (D':=D1 t) (J:=λ_ v=>v.heap=w.heap/\v.tape=w.tape/\v.os=w.os/\v.output=w.output) (λM v u o r=>⟨(show u.heap=v.heap from r.more).trans o.1,r.tape.trans o.2.1,r.os.trans o.2.2.1,r.out.trans o.2.2.2⟩) (λM v v' es o d=>by obtain⟨rfl,rfl⟩:=d;exact⟨j _ _,o⟩) h ⟨rfl,rfl,rfl,rfl⟩) ?_;rintro g M' w'⟨rfl,e1,e2,p,q⟩;have E:(n7[0]?).bind (·.dst)=some 22:=by kernel_rfl
 rw[E];have I:(a₀.put (some 22) (.tuple #[])).tmps[5]?=pT oB 0:=by simp only[Act.put];rw[ZF oM];exact y.t5
 have m:∃n,n=24/\(a₀.put (some 22) (.tuple #[])).tmps.size=n:=⟨_,rfl,by simp[Act.put,y.size]⟩;have N:(a₀.put (some 22) (.tuple #[])).defers=[]:=y.df;generalize a₀.put (some 22) (.tuple #[])=O at I m N⊢;clear h y E;refine .ctl k rfl (λv _=>j _ v) (λv=>Zw) ?_;simp only[xj,n6,mh,f39,ZR];refine .ctl k rfl (λv _=>j _ v) (λv=>ZH) ?_;refine ck k (λv _=>j _ v) rfl eA ?_;simp only[aah,Z6,aaA,Nat.reduceAdd,Z8,List.range,List.range.loop];refine aB rfl rfl λv f D i=>?_;replace e1:=(show v.heap=_ from f.more).trans e1;replace e2:=f.tape.trans e2;replace p:=f.os.trans p;replace q:=f.out.trans q;clear f;have P:v (aD oB 0)=qL C 0 n n:=by rw[<-H];exact ZQ (by rw[e1]) 0
 go_simp;refine i _ _ ⟨⟨Zo _,λe Q=>?_⟩,?_⟩
 .have F:=abf Q;simp[go_sem, *]at F;subst F;exact evL_cell (L:=λb=>b=oB) B rfl rfl (by rw[e1];exact A)
 clear i D P;rw[al rfl];refine aB rfl rfl λv f D i=>?_;replace e1:=(show v.heap=_ from f.more).trans e1;replace e2:=f.tape.trans e2;replace p:=f.os.trans p;replace q:=f.out.trans q;clear f;have R:(O.tmps.setIfInBounds 23 (qL C 0 n n))[23]?=qL C 0 n n:=Z0 (by obtain⟨n,rfl,m⟩:=m;omega);go_simp;refine i _ _ ⟨by rw[aaw (by simp[go_sem, *])];exact j _ _,?_⟩;clear i D;rw[al rfl];refine bL k (λv _=>j _ v) ?_;refine .ctl k rfl (λv _=>j _ v) (λv=>abQ) ?_;obtain⟨S,rfl,m⟩:=m;refine .ctl k rfl (λv _=>j _ v) (λv=>stepG_leave (v:=qL C 0 n n) rfl rfl func39 (by simp[results,f39,go_sem,m]) (by simp[results,f39,go_sem,m])) ?_;exact .stop λu z=>⟨rfl,(show u.heap=_ from z.more).trans e1,z.tape.trans e2,z.os.trans p,z.out.trans q⟩
end
end
section
open Go.Conc Go.ConcN Go.RowKit Go.Conc.Lib Go.ConcR.Gen Go.ConcN.Gen
open Go.ConcR (KK wgBlock WgAt stA smA rd wr mk Payload DC0 ofEvent_cell)
section
variable{Sh:Loc->Prop}{M:Nat->Prop}{w:AK}{cs:List K0}
def Mg{ve:Aq}{l:Option Es}{n h o p:Nat}{q i j:Aq}:
 an prog true du D2 (λg _ v=>g=G (b39.at ⟨#[ve,.slice l n h,pT o 0,C0,.slice none 0 0,pT p 0,pT w 0,C0,C0,q,i,j,.slice l n h,iI n,iI 0,C0,C0,C0,C0,C0,C0,C0,C0,C0],[]⟩ (.code eK::.inLoop eK::.inBlock 0::[.code n6])) cs/\
  v.heap=w.heap.push (wgBlock 102 0 0)/\v.tape=w.tape/\v.os=w.os/\v.output=w.output)
  (G (b39.at ⟨#[ve,.slice l n h,pT o 0,C0,.slice none 0 0,pT p 0,C0,C0,C0,q,i,j,C0,C0,C0,C0,C0,C0,C0,C0,C0,C0,C0,C0],[]⟩ [.code rL]) cs) M w:=by
 have c:=bk;have d:∀(M:Nat->Prop)(v:AK),D2 M v v #[]:=λM v=>rfl;simp only[rL,mh,f39,ZR];refine .ctl c rfl (λv _=>d _ v) (λv=>ZH) ?_;refine ck c (λv _=>d _ v) rfl eA ?_;simp only[aah,Z6,aaA,Nat.reduceAdd,Z8,List.range,List.range.loop];have e1:w.heap=w.heap:=rfl;have e2:w.tape=w.tape:=rfl;have e:w.os=w.os:=rfl;have f:w.output=w.output:=rfl;refine aB rfl rfl λv a m b=>?_;replace e1:=(show v.heap=_ from a.more).trans e1;replace e2:=a.tape.trans e2;replace e:=a.os.trans e;replace f:=a.out.trans f;clear a;go_simp;refine b _ _ ⟨aaw (by simp[go_sem, *]),?_⟩;clear b m;replace e1:(v.alloc (wgBlock 102 0 0)).heap=w.heap.push (wgBlock 102 0 0):=(show(v.alloc _).heap=v.heap.push _ from rfl).trans (by rw[e1]);replace e2:(v.alloc (wgBlock 102 0 0)).tape=_:=e2;replace e:(v.alloc (wgBlock 102 0 0)).os=_:=e;replace f:(v.alloc (wgBlock 102 0 0)).output=_:=f;change pJ _ _ _ _ _ _ _ _ _ _ (v.alloc (wgBlock 102 0 0));generalize v.alloc (wgBlock 102 0 0)=r at e1 e2 e f⊢;generalize bP _ v _=s at⊢;refine bL c (λv _=>d _ v) ?_;refine .ctl c rfl (λv _=>d _ v) (λv=>ZH) ?_;refine .ctl c rfl (λv _=>d _ v) (λv=>ZH) ?_;refine ck c (λv _=>d _ v) rfl eA ?_;simp only[aah,Z6,aaA,Nat.reduceAdd,Z8,List.range,List.range.loop]
 iterate 3
  refine aB rfl rfl λv a m b=>?_;replace e1:=(show v.heap=_ from a.more).trans e1;replace e2:=a.tape.trans e2;replace e:=a.os.trans e;replace f:=a.out.trans f;clear a;go_simp;refine b _ _ ⟨aaw (by simp[go_sem, *]),?_⟩;clear b m;rw[al rfl]
 refine bL c (λv _=>d _ v) ?_;refine .ctl c rfl (λv _=>d _ v) (λv=>acj) ?_;refine .ctl c rfl (λv _=>d _ v) (λv=>stepG_loop) ?_;exact .stop λu k=>⟨rfl,(show u.heap=_ from k.more).trans e1,k.tape.trans e2,k.os.trans e,k.out.trans f⟩
def T8{K:bW}(hK:K.Laws){AnchW Aft:Ar->(Nat->Prop)->AK->Prop}{Fz:Nat->Prop}{u:Array Ar}{a:Ar}{t:Trace}{q:Nat->Nat}{B:Nat}(sl:Option (Nat×Nat))
 (f:Fra prog Sh B u a t q)(hB:B<=K.Wg)(v:K.Wg<w)(hb:u.size=K.b+1)(Q:WgAt K.ty K.Wg w 0 0)(A:vh K 0 w)
 (R:∀x,Fz x->x≠K.C/\x≠K.E/\x≠K.Wg/\x<(w:Nat))(hc:K.C<w)(he:K.E<w)(S:∀l,Sh l->∃x,InB x l/\x≠K.C/\x≠K.E/\¬Fz x)
 (O:cz prog K AnchW K.n Fz a w):∃μ X F σ,Dr prog K hK Sh AnchW Aft w Fz μ 0 X F σ (crowd u w sl) t:=by
 have k:∀op∈t,op.act.low w:=λop m=>aeM oM (f.past.seen op m);have T:∀l,InB K.Wg l->∀i x,touchAt t i=some x->x.loc≠l:=λl o=>pM f.past.seen hB o;have U:∀{x:Nat}{l:Loc},InB x l->l.isMemory:=by
  rintro x l (⟨a,rfl,_⟩|rfl)<;>rfl
 have c:∀l,(∃x,InB x l/\(x=K.C\/x=K.E\/Fz x))->Perm t 0 l:=by
  rintro l⟨x,P,p⟩ i y hy rfl;rcases f.past.known i y hy (U P)with h|⟨h,_⟩
  .exact h
  obtain⟨z,V,W,h3,h4⟩:=S _ h;obtain rfl:=P.inj V;rcases p with p|p|p
  .exact absurd p W
  .exact absurd p h3
  exact absurd p h4
 have d:∀g,act K 0 g->g=0:=by
  rintro g (h|⟨i,h,_⟩)
  .exact h
  omega
 have Y:ks K 0 (λ_=>False) Fz (λ_ _=>False) (λ_ _=>False) w:=⟨λx h=>h.elim,λi h=>oM,λi i' h=>oM,R,λi h=>oM,hc,he,v⟩;have G:Com prog K Sh 0 u w t (λ_=>⟨0,0,0⟩) 0 (λ_=>False) Fz (λ_ _=>False) (λ_ _=>False) q:=by
  refine⟨hb,λi g h0 _ s=>f.leave.old i g h0 s,f.leave.above,λi h=>oM,⟨λi op x hi P hs=>?_,λg s l o=>?_,λg s l o=>?_,λg s l o=>?_,f.past.clean⟩,(JI.of_past f.past).mono (λl h=>.inl h) λg h=>h,λi h=>?_,k,f.past.hears,λi h=>oM,λi h=>oM,λi h=>oM,A,Y⟩
  .exact absurd rfl (T x.loc (o3 hs) i x (by unfold touchAt Trace.act?;rw[hi];exact P))
  .obtain rfl:=d g s;rcases o with⟨_,⟨x,h,_⟩|⟨i,_,rfl⟩⟩|⟨i,h,_⟩
   .exact h.elim
   .exact c _ ⟨K.C,qb i,.inl rfl⟩
   omega
  .obtain rfl:=d g s;rcases o with⟨_,x,V,W⟩|⟨i,h,_⟩
   .exact PermW.of (c _ ⟨x,W,.inr (.inr V)⟩)
   omega
  .obtain rfl:=d g s;exact uu.of (c _ ⟨K.E,o,.inr (.inl rfl)⟩)
  unfold Trace.act? at h;obtain⟨op,m,H⟩:=ZX.1 h;have:=f.past.seen op (ZS m);rw[H]at this;have:(stA K.Wg).block<B:=this;have e:(stA K.Wg).block=K.Wg:=rfl;omega
 have I:(0:Int)=((Vc 0 (λ_=>(⟨0,0,0⟩:WD))+0:Nat):Int)*KK:=by simp[Vc,sumTo]
 have J:∀(tag:CTag)(Stop:Ar->(Nat->Prop)->AK->Prop),CS prog K AnchW Aft Fz tag 0 0 0 Stop a (λ_=>False) w->ConcN.Mode 0 (λ_=>(⟨0,0,0⟩:WD)) tag 0 0->∃μ X F σ,Dr prog K hK Sh AnchW Aft w Fz μ 0 X F σ (crowd u w sl) t:=λtag Stop Z hm=>
  ⟨_,_,_,_,u,w,sl,λ_=>⟨0,0,0⟩,tag,0,0,a,0,0,Fz,λ_=>False,λ_ _=>False,λ_ _=>False,q,Stop,rfl,f.zero,Z,G,Q,hm,rfl,rfl,rfl,rfl,λ_ h=>h,Sn.refl hK w⟩
 cases hn:K.n with
 |zero=>
  rw[hn]at O;have L:Tag prog K AnchW Aft Fz .kd K.n 0 0 (SKd prog K Fz AnchW):=.kd;rw[hn]at L;refine J .kd _ ⟨L,.inl ⟨sM,O⟩⟩ ?_;have:=ConcN.Mode.opn (j:=0) (D:=λ_=>(⟨0,0,0⟩:WD)) (tag:=.kd) trivial (λi h=>oM) (λvs h=>by cases h)
  rwa [show pend .kd=0 from rfl,<-I]at this
 |succ r=>
  rw[hn]at O;have L:Tag prog K AnchW Aft Fz (.sp r 5) (K.n-(r+1)) 0 0 (Hm prog K Fz (K.n-(r+1)) (cz prog K AnchW r)):=.skd oM;have N:an prog true (R0 K Fz) (D0 K Fz) (Hm prog K Fz (K.n-(r+1)) (cz prog K AnchW r)) a (λ_=>False) w:=O;have e0:K.n-(r+1)=0:=oM;rw[e0]at L N;refine J (.sp r 5) _ ⟨L,.inl ⟨sM,N⟩⟩ ?_;have:=ConcN.Mode.opn (j:=0) (D:=λ_=>(⟨0,0,0⟩:WD)) (tag:=.sp r 5) trivial (λi h=>oM) (λvs h=>by cases h)
  rwa [show pend (.sp r 5)=0 from rfl,<-I]at this
end
end
section
open Go.Conc Go.ConcN Go.RowKit Go.Conc.Lib Go.ConcR.Gen Go.ConcN.Gen
open Go.ConcR (KK wgBlock WgAt stA smA rd wr mk Payload DC0 ofEvent_cell)
variable{E f:Nat}{w:AK}
def bG.uniq{g:Nat}(h:bG E w f)(k:bG E w g):f=g:=by
 obtain⟨e,b,_⟩:=h;obtain⟨c,a,_⟩:=k;rw[b]at a;simp only[Zt,ac5,aeZ,abd,adR,and_true,true_and]at a;omega
def bG.of{v:AK}(h:bG E w f)(e:v.heap[E]?=w.heap[E]?):bG E v f:=by
 obtain⟨t,a,b⟩:=h;exact⟨t,e.trans a,b⟩
def fj(P:E2):∀(N M:Nat)(m m':Machine)(t a:Trace),runNT P N m t=(.next m',a)->runNT P (N+M) m t=runNT P M m' a
 |0,M,m,m',t,a,h=>by
  simp only[runNT]at h;injection h with h1 h2;injection h1 with h1;subst h1 h2;rw[Z8]
 |N+1,M,m,m',t,a,h=>by
  rw[show N+1+M=(N+M)+1 by omega];simp only[runNT]at h⊢;cases b:stepT P m with
  |mk e ops=>
   rw[b]at h;cases e with
   |next m1=>exact fj P N M m1 m' _ a h
   |_=>simp at h
structure Bu(L:Nat->Prop)(E n:Nat)(ls:Option Es)(base:Nat->Option Es)(cap:Nat->Nat)(rs:Nat->List Rec)(w:AK):Prop where
 e:L E/\E<w
 l0:L 0
 ne:E≠0
 tab:ga w
 ls:∀j,j<n->∃a,ls=some a/\L a.block/\a.block<w/\a.block≠E/\a.spot=none/\w (aD a.block (a.off+j))=some (.slice (base j) (rs j) (cap j))
 bs:∀j a,j<n->base j=some a->L a.block/\a.block<w/\a.block≠E/\a.spot=none
 recs:∀j,j<n->∀k r,(rs j)[k]?=some r->∃a,base j=some a/\∀c u,(recC r)[c]?=some u->w (aD a.block (a.off+k*5+c))=some u
 few:n<=1048576
 len:∀j,j<n->((rs j):Nat)<=1048576
 ok:∀j,j<n->∀r,r∈rs j->r.Ok
structure nw(L:Nat->Prop)(E n:Nat)(rs:Nat->List Rec)(f B:Nat)(w v:AK)(C Wg:Nat)(cells:Array Aq):Prop where
 size:(w:Nat)<=v
 tape:v.tape=w.tape
 os:v.os=w.os
 out:v.output=w.output
 old:∀x,L x->x<(w:Nat)->x≠E->v.heap[x]?=w.heap[x]?
 fl:bG E v (f|||B)
 c:w<=C/\C<v
 wg:w<=Wg/\Wg<v/\Wg≠C
 cs:v.heap[C]?=some (.cells cells 53 (0,0))/\cells.size=n
 res:∀i,i<n->∃s,cells[i]?=some s/\v.ownsRow C 56 3 s (rs i) (flat (rs i))/\∀g,s.ownBlock=some g->g<(v:Nat)/\g≠C/\g≠Wg/\C<=g
def NL{Sh:Loc->Prop}{L:Nat->Prop}{gs:Array Ar}{t:Trace}{q:Nat->Nat}{c:K0}{cs:List K0}{n lsc B:Nat}{ls:Option Es}{base:Nat->Option Es}{cap:Nat->Nat}{rs:Nat->List Rec}(sl:Option (Nat×Nat))
 (hF:Fra prog Sh (w:Nat) gs (G (Frame.enter prog 39 #[pT E 0,.slice ls n lsc] .normal) (c::cs)) t q)
 (hSh:∀l,Sh l->∃x,InB x l/\¬L x/\x<(w:Nat))(hA:Bu L E n ls base cap rs w)(hfl:bG E w f)
 (hB:∀j,j<n->∀r,r∈rs j->r.res.2.1<256/\r.res.2.1|||B=B)(hBB:∀f':Nat,(∀j,j<n->fF (rs j)|||f'=f')->B|||f'=f'):
 ∃(N:Nat)(gs':Array Ar)(v:AK)(sl':Option (Nat×Nat))(t':Trace)(q':Nat->Nat)(C Wg:Nat)(cells:Array Aq)(Sh':Loc->Prop),
  runNT prog N (crowd gs w sl) t=(.next (crowd gs' v sl'),t')/\Fra prog Sh' (v:Nat) gs' (G (c.finish (qL C 0 n n)) cs) t' q'/\
  (∀l,Sh' l->Sh l\/∃a,l=.cell a/\a.block=Wg)/\nw L E n rs f B w v C Wg cells:=by
 obtain⟨N1,gs1,a1,M1,w1,sl1,t1,q1,r1,z1,⟨v9,v10,v11,rfl,o1,s1,x1,x2,x3,p1,p2,p3⟩,F1⟩:=hF.walk (D:=D1 Sh) (Stop:=λg _ w'=>∃v9 v10 v11,g=G (b39.at ⟨#[pT E 0,.slice ls n lsc,pT (w:Nat) 0,C0,.slice none 0 0,pT ((w:Nat)+2) 0,C0,C0,C0,v9,v10,v11,C0,C0,C0,C0,C0,C0,C0,C0,C0,C0,C0,C0],[]⟩ [.code rL]) (c::cs)/\
  (∀x,x<(w:Nat)->w'.heap[x]?=w.heap[x]?)/\(w':Nat)=(w:Nat)+3/\w'.heap[(w:Nat)]?=some (.cells #[pT E 0] 96 (0,0))/\w'.heap[(w:Nat)+1]?=some (.cells (Array.replicate n (.slice none 0 0)) 53 (0,0))/\w'.heap[(w:Nat)+2]?=some (.cells #[qL ((w:Nat)+1) 0 n n] 43 (0,0))/\w'.tape=w.tape/\w'.os=w.os/\w'.output=w.output)
  bk mH (λ_ _ _ _ h=>h) (NK (M:=λ_=>False) hA.few (λl hl=>let⟨x,h1,_,h3⟩:=hSh l hl;⟨x,h1,h3⟩) λw' v9 v10 v11 h1 h2 h3 h4 h5 h6 h7 h8 M'=>.stop λu hu=>⟨v9,v10,v11,rfl,by rw[show u.heap=w'.heap from hu.more];exact⟨h1,h2,h3,h4,h5,hu.tape.trans h6,hu.os.trans h7,hu.out.trans h8⟩⟩) sl
 obtain⟨N2,gs2,a2,M2,w2,sl2,t2,q2,r2,z2,⟨rfl,y1,y2,y3,y4⟩,F2⟩:=F1.walkQ bk mH (λ_ _ _ _ h=>h) (Mg (w:=w1) (M:=M1)) sl1;have hn:=hA.few;rw[s1]at F2;have n0:(w:Nat)+3=(w1:Nat):=s1.symm;have hz2:(w2:Nat)=(w:Nat)+4:=by rw[y1];simp;omega
 have old2:∀x,x<(w:Nat)+3->w2.heap[x]?=w1.heap[x]?:=λx hx=>by rw[y1,aa6,Zr oM]
 have hwg2:WgAt 102 ((w:Nat)+3) w2 0 0:=by
  show w2.heap[(w:Nat)+3]?=_;rw[y1,aa6,ZC oM]
 have hE:=hA.e;have hgs2:0<gs2.size:=(Zq.1 F2.zero).1
 let K:bW:=AS ((w:Nat)+3) ((w:Nat)+1) E n (gs2.size-1) B rs
 let s:Bt:={eB:=w.heap.size,oB:=(w:Nat)+2,ls,lsc,capn:=n,base,cap,rs}
 have hK:K.Laws:=Dg oM oM oM oM
 let Fz:Nat->Prop:=λx=>(L x/\x<(w:Nat)/\x≠E)\/x=(w:Nat)\/x=(w:Nat)+2
 have fz2:∀x,L x->x<(w:Nat)->x≠E->w2.heap[x]?=w.heap[x]?:=λx _ h2 _=>(old2 x oM).trans (o1 x h2);have cell2:∀(a:Es)(k:Nat),a.block<(w:Nat)->w2 (aD a.block k)=w (aD a.block k):=λa k h=>ZQ ((old2 _ oM).trans (o1 _ h)) k;have hfz:∀x,Fz x->x≠(w:Nat)+1/\x≠E/\x≠(w:Nat)+3/\x<(w2:Nat):=by
  rintro x (⟨_,h,he⟩|rfl|rfl)
  .exact⟨oM,he,oM,oM⟩
  .exact⟨oM,oM,oM,oM⟩
  exact⟨oM,oM,oM,oM⟩
 have hBt:BtF K s Fz w2:=by
  refine⟨⟨?_,?_,.inr (.inl rfl),.inr (.inr rfl),.inl ⟨hA.l0,oM,abj hA.ne⟩,λj hj=>?_,λj a hj e=>?_,λj hj k r hr=>?_,?_,hfz,by show (w:Nat)+1<_;omega,by show E<_;omega,by show (w:Nat)+3<_;omega⟩,⟨0,0,hwg2⟩⟩
  .have:=(old2 (w:Nat) oM).trans x1;simp[World.cell?,s,this,K,AS]
  .have:=(old2 ((w:Nat)+2) oM).trans x3;simp[World.cell?,s,this,K,AS]
  .obtain⟨a,h1,h2,h3,h4,h5,h6⟩:=hA.ls j hj;exact⟨a,h1,.inl ⟨h2,h3,h4⟩,h5,(cell2 a _ h3).trans h6⟩
  .obtain⟨h1,h2,h3,h4⟩:=hA.bs j a hj e;exact⟨.inl ⟨h1,h2,h3⟩,h4⟩
  .obtain⟨a,h1,h2⟩:=hA.recs j hj k r hr;exact⟨a,h1,λc u hu=>(cell2 a _ (hA.bs j a hj h1).2.1).trans (h2 c u hu)⟩
  obtain⟨fz,h⟩:=hA.tab;exact⟨fz,(fz2 0 hA.l0 oM (abj hA.ne)).trans h⟩
 have hsok:s.Ok K B:=⟨hA.len,hA.ok,hB⟩;have hr:=(Ii (s:=s) (ve:=pT E 0) (cs:=c::cs) (todo:=[.code n6]) hK rfl rfl rfl rfl hsok hn (OY rfl) K.n (Zo _) Fz w2 C0 C0 v9 v10 v11 C0 C0 C0 C0 C0 C0 C0 C0 C0 hBt);rw[adk]at hr;have hfl2:bG E w2 f:=hfl.of ((old2 E oM).trans (o1 E hE.2));have hrow2:=(old2 ((w:Nat)+1) oM).trans x2;obtain⟨μ,X,F,σ,hI⟩:=T8 (Aft:=Af ((w:Nat)+2) (c::cs)) hK sl2 F2 (by show (w:Nat)+3<=(w:Nat)+3;omega) (by show (w:Nat)+3<_;omega) (by show gs2.size=gs2.size-1+1;omega) hwg2 ⟨⟨_,hrow2,by simp[K,AS]⟩,⟨f,hfl2⟩,λi _ hi=>by
  show w2 (aD ((w:Nat)+1) i)=_;have hi':i<n:=hi;simp[World.cell?,hrow2,hi']⟩ hfz (by show (w:Nat)+1<_;omega) (by show E<_;omega) (λl hl=>by
  obtain⟨x,h1,h2,h3⟩:=hSh l hl;refine⟨x,h1,by show x≠(w:Nat)+1;omega,λe=>h2 (e▸hE.1),?_⟩;rintro(⟨h,_⟩|h|h)
  .exact h2 h
  .omega
  omega) hr
 obtain⟨N3,m3,t3,r3,gs3,w3,sl3,a3,M0,Fz3,Ms,Fzs,q3,rfl,F3,z3,haft,hout,hpay,hgeo,hF3,hsn⟩:=G4 (An.run) (An.goes rfl) μ 0 X F σ _ _ hI;have oB3:w3.heap[(w:Nat)+2]?=some (.cells #[qL ((w:Nat)+1) 0 n n] 43 (0,0)):=(hsn.fz _ (.inr (.inr rfl))).trans ((old2 _ oM).trans x3);have hsz3:=hsn.size;have haft':Af ((w:Nat)+2) (c::cs) a3 M0 w3:=haft;obtain⟨N4,gs4,a4,M4,w4,sl4,t4,q4,r4,z4,⟨rfl,u1,u2,u3,u4⟩,F4⟩:=F3.walk (D:=D1 (shw K Sh)) bk mH (λ_ _ _ _ h=>h) (UE (C:=(w:Nat)+1) (n:=n) haft' (by simp[World.cell?,oB3]) oM λl hl=>by
  rcases hl with hl|hl
  .obtain⟨x,h1,_,h3⟩:=hSh l hl;exact⟨x,h1,oM⟩
  exact⟨(w:Nat)+3,o3 hl,oM⟩) sl3
 obtain⟨cells,hc1,hc2⟩:=hpay;refine⟨N1+(N2+(N3+N4)),gs4,w4,sl4,t4,q4,(w:Nat)+1,(w:Nat)+3,cells,shw K Sh,?_,F4,λl hl=>hl,?_⟩
 .rw[fj _ _ _ _ _ _ _ r1,fj _ _ _ _ _ _ _ r2,fj _ _ _ _ _ _ _ r3];exact r4
 have hcell:∀i,i<n->∀v,Has ((w:Nat)+1) i v w3->cells[i]?=some v:=by
  intro i hi v hv;have hc1':w3.heap[(w:Nat)+1]?=some (.cells cells 53 (0,0)):=hc1;have:cF w3 ((w:Nat)+1) i v:=hv;simpa[World.cell?,hc1']using this
 obtain⟨f',g1,g2,g3⟩:∃f':Nat,bG E w3 f'/\f|||f'=f'/\f'|||(f|||B)=f|||B:=hsn.fl f hfl2
 have hor:∀j,j<n->fF (rs j)|||f'=f':=by
  intro j hj;obtain⟨s,_,_,_,f'',h1,h2⟩:Ho ((w:Nat)+1) E rs j (Ms j) w3:=hout j hj;rw[g1.uniq h1];exact h2
 have hf':f'=f|||B:=by
  have h1:=hBB f' hor
  calc f'=f|||(B|||f'):=by rw[h1,g2]
   _=f'|||(f|||B):=by ac_rfl
   _=f|||B:=g3
 rw[hf']at g1;refine⟨by rw[u1];omega,u2.trans (hsn.tape.trans (y2.trans p1)),u3.trans (hsn.os.trans (y3.trans p2)),u4.trans (hsn.out.trans (y4.trans p3)),λx h1 h2 h3=>?_,g1.of (by rw[u1]),⟨oM,by rw[u1];omega⟩,⟨oM,by rw[u1];omega,oM⟩,⟨by rw[u1];exact hc1,hc2⟩,λi hi=>?_⟩
 .rw[u1];exact(hsn.fz x (.inl ⟨h1,h2,h3⟩)).trans (fz2 x h1 h2 h3)
 obtain⟨s,h1,h2,h3,_⟩:Ho ((w:Nat)+1) E rs i (Ms i) w3:=hout i hi;refine⟨s,hcell i hi s h1,dG h2 λg _=>(by rw[u1]),λg hg=>?_⟩;obtain⟨_,_,k1,_,k2,k3⟩:=hgeo.ms i hi g (h3 g hg);refine⟨by rw[u1];exact k3,k1,k2,?_⟩;rcases h2.2 with⟨rfl,_⟩|⟨g',_,_,rfl,h,_⟩
 .cases hg
 simp only[Value.ownBlock,Zt]at hg;subst hg;exact h
end
namespace T
open Go.Conc Go.ConcN
variable{E n:Nat}{M:Nat->Prop}{R:Aq->AK->Prop}{a:Act}{cap:Nat->Nat}{cs:List K0}{c₁:K0}{fn:FuncId}{k:List Item}{ls:Option Es}{rs:Nat->List Rec}{u v w wl:AK}
structure Eqv(v u:AK):Prop where
 heap:u.heap=v.heap
 tape:u.tape=v.tape
 os:u.os=v.os
 out:u.output=v.output
def Eqv.refl(v:AK):Eqv v v:=⟨rfl,rfl,rfl,rfl⟩
def Eqv.trans{a b c:AK}(h:Eqv a b)(k:Eqv b c):Eqv a c:=⟨k.heap.trans h.heap,k.tape.trans h.tape,k.os.trans h.os,k.out.trans h.out⟩
def Eqv.cases(h:Eqv v u):∃d,u=v.at d:=by
 obtain⟨j,l,i,m,o⟩:=u;obtain⟨b,e,f,g⟩:=h;simp only at b e f g;subst b e f g;exact⟨i,rfl⟩
def Eqv.of_rel(h:Rel du M v u):Eqv v u:=⟨h.more,h.tape,h.os,h.out⟩
def Eqv.rel(e:Eqv v u):Rel du M v u:=⟨e.tape,e.os,e.out,aaE (by rw[e.heap]),λb _=>by rw[e.heap],e.heap⟩
def Tr.eqv{m:Md}(h:Tr m wl v)(e:Eqv v u):Tr m wl u:=by
 obtain⟨d,rfl⟩:=e.cases;exact⟨h.size,h.blk,h.val,h.obj,h.dead,h.os,h.out⟩
def Tr.lone{m:Md}(h:Tr m wl v)(T:Nat->Question->Nat):Tr m (aK wl.heap T v) v:=⟨h.size,h.blk,h.val,h.obj,h.dead,rfl,rfl⟩
def Did.eqv{m:Md}{w0l f:AK}(h:Did m w0l f wl v)(e:Eqv v u):Did m w0l f wl u:=by
 obtain⟨d,rfl⟩:=e.cases;exact⟨h.tr.eqv ⟨rfl,rfl,rfl,rfl⟩,h.size,λb=>⟨(h.stay b).cells,(h.stay b).odd⟩,h.tape,h.os,h.out⟩
section
variable(Goal:Machine->Trace->Prop)
def Comes(m:Machine)(t:Trace):Prop:=∃N m' b,runNT prog N m t=(.next m',b)/\Goal m' b
def Way(d:Loc->Prop)(g:Ar)(v:AK):Prop:=
 ∀u,Eqv v u->∀b t q sl,Fra prog d u b g t q->Comes Goal (crowd b u sl) t
end
section
variable{Goal:Machine->Trace->Prop}{Sh:Loc->Prop}{g:Ar}{v:AK}
def Way.rely(h:Way Goal Sh g v)(e:Eqv v u):Way Goal Sh g u:=λx k=>h x (e.trans k)
def Way.of_gone(h:an prog true du (D1 Sh) (λg _ v=>Way Goal Sh g v) g M v):Way Goal Sh g v:=λu e y t q sl f=>by
 obtain⟨N,b,a',M',w',d,i,j,r,_,l,m⟩:=f.walk (D:=D1 Sh) bk mH (λ_ _ _ _ h=>h) (h.rely bk e.rel) sl;obtain⟨o,p,t2,s,x⟩:=l w' (.refl _) b i j d m;exact⟨N+o,p,t2,by rw[fj _ _ _ _ _ _ _ r];exact s,x⟩
def Way.ctl{g':Ar}(b:g.status=.running)(d:∀v,KC prog true g v=.go g' v #[])(h:Way Goal Sh g' v):Way Goal Sh g v:=
 .of_gone (M:=λ_=>False) (.ctl bk b (λv _=>D1.nil v) d (.stop λu e=>h.rely (.of_rel e)))
end
section
variable{Goal:Machine->Trace->Prop}{m:Md}{gl:Nat->Bool}{dyn:Bool}{Sh:Loc->Prop}{w0:AK}{H:Array Obj}
def Way.piece(l:Cx prog m gl dyn)(o:∀b,(w0:Nat)<=b->m.GL b)(h:nC m Sh)(i:∃f,prog.funcs[fn]?=some f){c:Code}(p:aG prog m.good gl dyn c)(q:dD m a)
 (d:∀T,Tr m (aK H T w0) w0){R:Act->AK->Prop}(j:∀T,c.wp prog (λe a' w'=>e=.normal/\R a' w') a (aK H T w0))
 (g:∀a' wl v,R a' wl->dD m a'->Did m (aK H (λ_ _=>0) w0) w0 wl v->Way Goal Sh (G ((base fn).at a' k) (c₁::cs)) v):Way Goal Sh (G ((base fn).at a (.code c::k)) (c₁::cs)) w0:=
 .of_gone (M:=λ_=>False) (T.piece l o h i p q d j λa' wl v _ r s t=>.stop λu x=>g a' wl u r s (t.eqv (.of_rel x)))
def Way.call(l:Cx prog m gl dyn)(o:∀b,(w0:Nat)<=b->m.GL b)(j:nC m Sh){f:FuncId}(p:m.good f){fn:Func}{h:Code}(q:prog.funcs[f]?=fn)(r:fn.body=h){args:Array Aq}(s:∀v,v∈args->m.V v)
 (d:∀T,Tr m (aK H T w0) w0)(g:∀T,Bf prog f args (aK H T w0) λe w'=>∃x,e=.returned x/\R x w')
 (i:∀x wl v,R x wl->m.V x->Did m (aK H (λ_ _=>0) w0) w0 wl v->Way Goal Sh (G (c₁.finish x) cs) v):Way Goal Sh (G (Frame.enter prog f args .normal) (c₁::cs)) w0:=
 .of_gone (M:=λ_=>False) (T.call l o j p q r s d g λx wl v _ t y z=>.stop λu A=>i x wl u t y (z.eqv (.of_rel A)))
def Way.tail(l:Cx prog m gl dyn)(o:∀b,(w0:Nat)<=b->m.GL b)(h:nC m Sh)(i:∃f,prog.funcs[fn]?=some f)(p:∀j,j∈k->dp prog m gl dyn j)(q:dD m a)
 (d:∀T,Tr m (aK H T w0) w0)(e:∀T,∃x w',Steps prog (lone ((base fn).at a k) [c0] (aK H T w0)) (lone (c0.finish x) [] w')/\R x w')
 (g:∀x wl v,R x wl->m.V x->Did m (aK H (λ_ _=>0) w0) w0 wl v->Way Goal Sh (G (c₁.finish x) cs) v):Way Goal Sh (G ((base fn).at a k) (c₁::cs)) w0:=
 .of_gone (M:=λ_=>False) (T.tail l o h i p q d e λx wl v _ r s t=>.stop λu y=>g x wl u r s (t.eqv (.of_rel y)))
end
def Hi{L:Nat->Prop}{base:Nat->Option Es}(h:Bu L E n ls base cap rs w)(e:Eqv w u):Bu L E n ls base cap rs u:=by
 obtain⟨d,rfl⟩:=e.cases;exact⟨h.e,h.l0,h.ne,h.tab,h.ls,h.bs,h.recs,h.few,h.len,h.ok⟩
def Way.batch{m:Machine->Trace->Prop}{J:Loc->Prop}{Dd:Nat->Prop}{c:K0}{x f B:Nat}{base:Nat->Option Es}
 (o:∀l,J l->∃a,l=.cell a/\Dd a.block)(y:∀b,Dd b->b<(w:Nat))(O:Bu (λb=>¬Dd b) E n ls base cap rs w)(z:bG E w f)
 (P:∀j,j<n->∀r,r∈rs j->r.res.2.1<256/\r.res.2.1|||B=B)(A:∀f':Nat,(∀j,j<n->fF (rs j)|||f'=f')->B|||f'=f')
 (p:∀(v:AK)(C Wg:Nat)(cells:Array Aq)(i:Loc->Prop),(∀l,i l->∃a,l=.cell a/\(Dd a.block\/a.block=Wg))->nw (λb=>¬Dd b) E n rs f B w v C Wg cells->Way m i (G (c.finish (qL C 0 n n)) cs) v):
 Way m J (G (Frame.enter prog 39 #[pT E 0,.slice ls n x] .normal) (c::cs)) w:=λu e gs t q sl Q=>by
 have K:=e.heap;obtain⟨N,D,v,F,S,T,C,Wg,cells,i,r,U,V,g⟩:=NL (L:=λb=>¬Dd b) sl Q (λl H=>by
  obtain⟨a,rfl,s⟩:=o l H;exact⟨a.block,.inl ⟨a,rfl,rfl⟩,λh=>h s,by rw[K];exact y _ s⟩) (Hi O e) (z.of (by rw[K])) P A
 have I:nw (λb=>¬Dd b) E n rs f B w v C Wg cells:=by
  obtain⟨d,rfl⟩:=e.cases;exact⟨g.size,g.tape,g.os,g.out,g.old,g.fl,g.c,g.wg,g.cs,g.res⟩
 obtain⟨W,X,t2,Y,Z⟩:=p v C Wg cells i (λl H=>by
  rcases V l H with h|⟨a,rfl,h⟩
  .obtain⟨a,e1,s⟩:=o l h;exact⟨a,e1,.inl s⟩
  exact⟨a,rfl,.inr h⟩) I v (.refl _) D S T F U
 exact⟨N+W,X,t2,by rw[fj _ _ _ _ _ _ _ r];exact Y,Z⟩
end T
section
open Go.RowKit Go.Shelf
variable{B:Nat}{Q:Exit->Act->AK->Prop}{f:LR->List Aq}{ls:List (List LR)}{u:Aq}{v w:AK}
noncomputable def oo:Code:=f15.body.getD .skip
def tB:Code:=match oo with|.seq _ (.seq _ (.seq c _))=>c|_=>.skip
def Wo:Code:=match tB with|.seq _ (.block _ (.loop c))=>c|_=>.skip
def Ws:Code:=match Wo with|.seq _ (.seq (.block _ c) _)=>c|.seq _ (.seq _ (.seq (.block _ c) _))=>c|_=>.skip
def Sy:Code:=match Ws with|.seq _ (.seq _ (.cond _ c _))=>c|_=>.skip
def spC(p:Aq×Stp):List Aq:=[.bool p.2.batch,.int .i64 p.2.stop,p.1]
def cH.keepC(h:cH w B u f ls)(j:∀(g:Nat)(c:Array Aq)(t:E1)(z:Nat×Nat),B<=g->(t=71\/t=59)->w.heap[g]?=some (.cells c t z)->v.heap[g]?=w.heap[g]?):cH v B u f ls:=by
 obtain⟨k,b,l⟩:=h;refine⟨k,bn b λg a=>?_,λi m n=>?_⟩
 .obtain⟨c,z,d⟩:=dF b a;exact j g c _ z (ak b a).1 (.inl rfl) d
 obtain⟨s,o,e,p⟩:=l i m n;refine⟨s,o,bn e λg a=>?_,p⟩;obtain⟨c,z,d⟩:=dF e a;exact j g c _ z (ak e a).1 (.inr rfl) d
def cH.base{B':Nat}(h:cH w B u f ls)(a:B'<=B):cH w B' u f ls:=by
 obtain⟨b,c,d⟩:=h;refine⟨b,iu c a,λi e g=>?_⟩;obtain⟨s,j,k,l⟩:=d i e g;exact⟨s,j,iu k a,l⟩
def lz(w:AK)(B:Nat)(u:Aq)(a:List Stp):Prop:=
 ∃ps:List (Aq×Stp),ps.map (·.2)=a/\w.ownsRow B 37 3 u ps (ps.flatMap spC)/\∀p∈ps,cH w B p.1 gvC p.2.ls
def lz.keep{a:List Stp}(h:lz w B u a)(e:∀g,B<=g->g<(w:Nat)->v.heap[g]?=w.heap[g]?):lz v B u a:=by
 obtain⟨ps,i,d,j⟩:=h;exact⟨ps,i,bn d λg b=>e g (ak d b).1 (ak d b).2,λp k=>(j p k).keepC λg c t z b _ l=>e g b (Zq.1 l).1⟩
def lz.more{j s:Aq}{st:Stp}{ps:List (Aq×Stp)}{o:Obj}(m:w.ownsRow B 37 3 u ps (ps.flatMap spC))(n:∀p∈ps,cH w B p.1 gvC p.2.ls)(q:cH w B s gvC st.ls)
 (a:v.ownsRow B 37 3 j (ps+1) (ps.flatMap spC++spC (s,st)))(r:(w.alloc o).grownBy v u.ownBlock):lz v B j (ps.map (·.2)++[st]):=by
 have k:∀(g:Nat)(c:Array Aq)(t:E1)(z:Nat×Nat),B<=g->(t=71\/t=59)->w.heap[g]?=some (.cells c t z)->v.heap[g]?=w.heap[g]?:=λg c t z _ h l=>by
  have i:=(Zq.1 l).1;refine(r.block g sO λe=>?_).trans (aap _ _ _ i);obtain⟨x,y,b⟩:=dF m e.symm;rw[l]at b;cases b;rcases h with h|h<;>exact absurd h dC
 refine⟨ps++[(s,st)],sM,by rw[abU,acZ];simpa using a,λp d=>?_⟩;rcases aci.1 d with d|d
 .exact(n p d).keepC k
 obtain rfl:=aag.1 d;exact q.keepC k
def nU{P:E2}{ops:Array Oper}{o:Oper}{a:Act}{K:Act->AK->Prop}(q:o.guard=none)(s x:Operand)(t:E1)
 (E:o.op=.call {callee:=.builtin .append,args:=#[s,x],argTypes:=#[t,t]})
 (base:Nat)(e:E1)(i:TypeInfo)(z:Aq)(size bytes:Nat)(F:P.underlying t=some (.slice e))(G:P.info? e=i)(H:i.zero=z)
 (g:i.size=size)(r:i.bytes=bytes)(y:z.cells.size=size)(A:0<size)
 (v:Aq)(n:Nat)(C:List Aq)(I:a.eval s=v)(p:w.ownsRow base e size v n C)
 (ad:Es)(m c:Nat)(b:List Aq)(J:a.eval x=.slice ad m c)(L:b=m*size)(k:∀j u,b[j]?=some u->w (ad.add j)=some u)(M:∀u∈b,u.oneCell')
 (D:n+m<=maxLen)(d:(n+m)*bytes<=140737488355328)(l:base<=w)
 (h:∀v' w',w'.ownsRow base e size v' (n+m) (C++b)->w.grownBy w' v.ownBlock->K (a.put o.dst v') w'):
 if Region.wanted o (yielded ops a.tmps) then o.wp P a w K Q else K (a.put o.dst C0) w:=by
 have N:Region.wanted o (yielded ops a.tmps):=by simp[Region.wanted,q]
 rw[ZC N];obtain⟨v',w',O,R,S,T,U⟩:=run_append_own_at (P:=P) w base t o.type e i z size bytes F G H g r y A v n C p ad m c b L k M D d l;unfold Oper.wp Lk;simp only[E,resolve,invoke,builtin,Sem.run_bind,Sem.run_pure,Result.andThen_ok,List.map_toArray,adH,adY,I,J,O];exact h v' w' R S
def LA{b:Bool}{i:Int}{A:Option Es}{n c:Nat}:∀u∈([.bool b,.int .i64 i,.slice A n c]:List Aq),u.oneCell':=by
 intro u a;simp at a;rcases a with rfl|rfl|rfl<;>rfl
def MM:(prog.info? 37).map (λi=>(i.zero,i.size,i.bytes))=some (some (.agg #[.bool false,.int .i64 0,.slice none 0 0]),3,40):=by kernel_rfl
def vL{x0 x1 x2 x4 x6 x7 x8 x9 aa ab ac ae af ag ah ai aj al am an ao ap aq ar cJ au av aw ax ay az aA aB aE aF aG aH aI aJ aK aL aM aN aO aP aR aS aT aU aV aW aX aY aZ a0 a1 a2 a3 a4 a5 a6 a7 a8 a9 ba bb bc bd be bf bg bi bj bk bm bo bp bq br bs bt bu bv bw bx bz bA bB bC bD bE bF bG bH bI bJ bK bL bM bN bO bP bQ bS bT bU bV bW bZ b0 b1 b2 b3 b4 b5 b6 b7 b8 b9 ca cc cd ce cf cg ch ci cj ck cl cm cn co cp cq cr cs ct cu cv cw cx cy cz cA cC cD cE cG cI:Aq}{ds:List Deferred}(B o n C:Nat)(D:Option Es)(h a:Int)(A':Option Es)(b:Nat)(ls:List (List LR))(hl:(ls:Nat)<=1048576)(E:∀(i:Nat)(rs:List LR),ls[i]?=rs->(rs:Nat)<=1048576)(hr:bh w A' 5 (ls.map (·.map lrC)))
 (F:w (aD o 0)=some (.int .i64 h))(h1:w (aD o 1)=some (.int .i64 a))(h7:w (aD o 7)=some (.slice A' ls b))(ps:List (Aq×Stp))(hn:n=ps)(hnl:n<=1048576)(y:w.ownsRow B 37 3 (.slice D n C) n (ps.flatMap spC))(G:∀p∈ps,cH w B p.1 gvC p.2.ls)(hB:B<=w)(H:∀g,(Value.slice D n C).ownBlock=some g->g≠o)
 (I:∀⦃J K L M N O P R S T U V:Aq⦄(W:AK) (v3:Aq),aQ w (λk=>(Value.slice D n C).ownBlock=some k) w W->lz W B v3 (ps.map (·.2)++[⟨h==4,a,ls⟩])->Q .normal ⟨(x0::x1::x2::v3::x4::.pointer (aD o 0)::x6::x7::x8::x9::aa::ab::ac::ae::af::ag::ah::ai::aj::al::am::an::ao::ap::aq::ar::cJ::au::av::aw::ax::ay::az::aA::aB::aE::aF::J::K::L::M::N::O::P::R::S::T::U::V::aT::aU::aV::aW::aX::aY::aZ::a0::a1::a2::a3::a4::a5::a6::a7::a8::a9::ba::bb::bc::bd::be::bf::bg::bi::bj::bk::bm::bo::bp::bq::br::bs::bt::bu::bv::bw::bx::bz::bA::bB::bC::bD::bE::bF::bG::bH::bI::bJ::bK::bL::bM::bN::bO::bP::bQ::bS::bT::bU::bV::bW::bZ::b0::b1::b2::b3::b4::b5::b6::b7::b8::b9::ca::cc::cd::ce::cf::cg::ch::ci::cj::ck::cl::cm::cn::co::cp::cq::cr::cs::ct::cu::cv::cw::cx::cy::cz::cA::cC::cD::cE::cG::cI::[]).toArray,ds⟩ W):
 Sy.wp prog Q ⟨(x0::x1::x2::.slice D n C::x4::.pointer (aD o 0)::x6::x7::x8::x9::aa::ab::ac::ae::af::ag::ah::ai::aj::al::am::an::ao::ap::aq::ar::cJ::au::av::aw::ax::ay::az::aA::aB::aE::aF::aG::aH::aI::aJ::aK::aL::aM::aN::aO::aP::aR::aS::aT::aU::aV::aW::aX::aY::aZ::a0::a1::a2::a3::a4::a5::a6::a7::a8::a9::ba::bb::bc::bd::be::bf::bg::bi::bj::bk::bm::bo::bp::bq::br::bs::bt::bu::bv::bw::bx::bz::bA::bB::bC::bD::bE::bF::bG::bH::bI::bJ::bK::bL::bM::bN::bO::bP::bQ::bS::bT::bU::bV::bW::bZ::b0::b1::b2::b3::b4::b5::b6::b7::b8::b9::ca::cc::cd::ce::cf::cg::ch::ci::cj::ck::cl::cm::cn::co::cp::cq::cr::cs::ct::cu::cv::cw::cx::cy::cz::cA::cC::cD::cE::cG::cI::[]).toArray,ds⟩ w:=by
 subst hn;replace I:=Zp I;obtain⟨i1,X,Y,Z,cM⟩:=abq MM;have j:=bX F;simp only at j;have q:=λ(W:AK)(hW:Np w w W)=>Gt A' b ls hl E W (hr.below hW);replace q:=Zp q;conv=>arg 2;whnf
 have uW:(w (aD o 0)=some (.int .i64 h)/\w (aD o 1)=some (.int .i64 a)/\w (aD o 7)=some (.slice A' ls b)):=⟨F,h1,h7⟩;have Yb:=aaz _ _ uW.1
 go_region_held3(λw'=>(w' (aD o 0)=some (.int .i64 h)/\w' (aD o 1)=some (.int .i64 a)/\w' (aD o 7)=some (.slice A' ls b)))
  (first
   |with_reducible exact WJ
   |with_reducible exact CP
   |with_reducible exact uW
   |(refine⟨?_,?_,?_⟩<;>(go_simp;done))
   |go_keep)
  (first
   |(go_at_call 21;refine(q.out _ (by first|with_reducible exact Zx _ _|with_reducible exact(Zx _ _).drew)).mono ?_;rintro e x⟨v1,rfl,m,c⟩;obtain⟨vA,vc,rfl,_⟩:=gq eG m;have CP:(x (aD o 0)=some (.int .i64 h)/\x (aD o 1)=some (.int .i64 a)/\x (aD o 7)=some (.slice A' ls b)):=⟨(c.cell (p:=aD o 0) j).trans F,(c.cell (p:=aD o 1) j).trans h1,(c.cell (p:=aD o 7) j).trans h7⟩;have z:=aaz _ _ CP.1)
   |(refine nU rfl (.tmp 37) (.tmp 47) 33 rfl B 37 i1 _ 3 40 underlying33 X Y Z cM rfl dC _ ps (ps.flatMap spC) rfl ((bY (w:=w.drew) y c).alloc _) (aD x 0) 1 1 [.bool (h==4),.int .i64 a,.slice vA ls vc] rfl rfl (hZ [.bool (h==4),.int .i64 a,.slice vA ls vc]) LA (by simp only[maxLen];omega) oM (by have:=c.size;simp;simp at this;omega) ?_;intro v2 A r d;have WJ:(A (aD o 0)=some (.int .i64 h)/\A (aD o 1)=some (.int .i64 a)/\A (aD o 7)=some (.slice A' ls b)):=(have t:A.heap[o]?=x.heap[o]?:=(d.block o sO (λe=>H _ e.symm rfl)).trans (aap _ _ _ z);⟨(ZW (a:=aD o 0) t).trans CP.1,(ZW (a:=aD o 1) t).trans CP.2.1,(ZW (a:=aD o 7) t).trans CP.2.2⟩)))
 have l:Np w w x:=((Zx _ _).drew).trans c;have hsz:=l.size;refine I.out A v2 (((aQ.of l).alloc hsz _).grown d sO λk e=>.inr e) ?_;exact lz.more (s:=.slice vA ls vc) (st:=⟨h==4,a,ls⟩) (bY y l) (λp hp=>(G p hp).below l) (m.base hB) r d
end
section
open Go.RowKit Go.Shelf
variable{v w:AK}
attribute[local go_sem] pg tP
structure Sop where
 kd:Int
 a:Int
 op:Int
 md:Int
 x:Nat
 y:Nat
 z:Nat
 ls:List (List LR)
structure uv(w:AK)(b o:Nat)(A':Option Es)(cap':Nat)(s:Sop):Prop where
 c0:w (aD b o)=some (.int .i64 s.kd)
 c1:w (aD b (o+1))=some (.int .i64 s.a)
 c2:w (aD b (o+2))=some (.int .i64 s.op)
 c3:w (aD b (o+3))=some (.int .i64 s.md)
 c4:w (aD b (o+4))=some (.int .u64 s.x)
 c5:w (aD b (o+5))=some (.int .u64 s.y)
 c6:w (aD b (o+6))=some (.int .u64 s.z)
 c7:w (aD b (o+7))=some (.slice A' s.ls cap')
 l:bh w A' 5 (s.ls.map (·.map lrC))
def uv.below{b o:Nat}{A':Option Es}{c:Nat}{s:Sop}(h:uv w b o A' c s)(a:Np w w v):uv v b o A' c s:=by
 have d:b<w:=bX h.c0;exact⟨(a.cell (p:=aD b o) d).trans h.c0,(a.cell (p:=aD b (o+1)) d).trans h.c1,(a.cell (p:=aD b (o+2)) d).trans h.c2,(a.cell (p:=aD b (o+3)) d).trans h.c3,(a.cell (p:=aD b (o+4)) d).trans h.c4,(a.cell (p:=aD b (o+5)) d).trans h.c5,(a.cell (p:=aD b (o+6)) d).trans h.c6,(a.cell (p:=aD b (o+7)) d).trans h.c7,h.l.below a⟩
def Lf(w:AK)(A:Option Es)(ops:List Sop):Prop:=
 ∀(i:Nat)(s:Sop),ops[i]?=s->∃a A' b,A=some a/\a.spot=none/\uv w a.block (a.off+i*8) A' b s
def stp(s:Sop):Option Stp:=if s.kd=3\/s.kd=4 then some ⟨s.kd==4,s.a,s.ls⟩else none
def aI(ops:List Sop):List Stp:=ops.filterMap stp
def oF{ops:List Sop}{k:Nat}{s:Sop}(h:ops[k]?=s):aI (ops.take (k+1))=aI (ops.take k)++(stp s).toList:=by
 obtain⟨a,rfl⟩:=ZL.1 h;unfold aI;rw[aas a,ads];cases b:stp ops[k]<;>simp[b]
def lz.nil(w:AK)(B:Nat):lz w B (.slice none 0 0) []:=⟨[],rfl,⟨rfl,.inl ⟨rfl,rfl⟩⟩,λp a=>by simp at a⟩
def lz.below{B:Nat}{u:Aq}{a:List Stp}(h:lz w B u a)(b:Np w w v):lz v B u a:=h.keep λg _ c=>b.block g c
end
section
open Go.RowKit Go.Shelf
def qQ:Code:=match oo with|.seq _ (.seq _ (.seq _ (.seq _ c)))=>c|_=>.skip
def Tg:Code:=match qQ with|.seq _ (.seq _ (.seq (.seq _ (.block _ (.loop c))) _))=>c|_=>.skip
def Ai:Code:=match Tg with|.seq _ (.seq (.block _ c) _)=>c|_=>.skip
def Tf:Code:=match Ai with|.seq _ (.seq _ (.seq _ (.seq (.seq _ (.block _ (.loop c))) _)))=>c|_=>.skip
def Qk:Code:=match Tf with|.seq _ (.seq (.block _ c) _)=>c|_=>.skip
def dv(x:LR->Nat×Nat×Bool)(b:Bool)(stop:Int)(rs:List LR):List (Nat×Nat×Bool):=if b then rs.map x else(cut stop rs).map x
def pb(x:LR->Nat×Nat×Bool)(b:Bool)(stop:Int)(F:Nat)(rs:List LR):Nat:=if b then F|||orL x rs else aW x F (cut stop rs)
def ky(x:LR->Nat×Nat×Bool)(f:Nat)(s:Stp):TD:=⟨s.ls.map (dv x s.batch s.stop),s.ls.foldl (pb x s.batch s.stop) f⟩
def gf(x:LR->Nat×Nat×Bool):Nat->List Stp->List TD
 |_,[]=>[]
 |f,s::a=>ky x f s::gf x (ky x f s).fl a
def rV(stop:Int)(rs:List LR):(cut stop rs)=cJ rs stop:=by
 unfold cut;rw[aaY];unfold cJ;split<;>omega
def C7{x0 x1 x2 x3 x4 x5 x9 aa ab ac ad ae af ag ai al am an ao ap aq ar cH au av aw ax ay az aA aB aE aF aG aH aI aJ aK aL aM aN aO aP aQ aR aS aT aU aV aX aY aZ a0 a1 a2 a3 a4 a5 a6 a7 a8 a9 ba bb bc bd be bf bg bh bi bj bk bm bn bo bp bq br bs bt bu bv bw bx bz bA bB bC bD bF bG bH bI bJ bK bL bM bN bO bP bQ bS bT bU bV bW bY bZ b0 b1 b2 b3 b4 b5 b6 b7 b8 b9 ca cc cd ce cf cg ch ci cj ck cm cn co cp cq cs ct cu cv cw cx cy cz cA cC cD cE cG:Aq}{ds:List Deferred}{Q:Exit->Act->AK->Prop}{w:AK}(d o tb i N c6 g k n lb lo cl u y cr:Nat)(A' J:Option Es)(K R:Nat)(kd a:Int)(b:Bool)(hkd:(kd==4)=b)(rs:List LR)(hl:(rs:Nat)<=1048576)(x:LR->Nat×Nat×Bool)(hx:∀r,(x r).2.1<256)(F:Nat)(hF:F<1073741824)
 (T:∀r,r∈rs->∀W,Bf prog 35 #[eV r.o r.m r.a r.b r.c] W (ah (x r).1 (x r).2.1 (x r).2.2 W))
 (h0:w (aD o 0)=some (.int .i64 kd))(h1:w (aD o 1)=some (.int .i64 a))(h7:w (aD o 7)=some (.slice (aD lb lo) n cl))(hkn:k<n)
 (hL:w (aD lb (lo+k))=some (.slice A' rs K))(hr:bE w A' 5 (rs.map lrC))(hat:g<N)
 (hT:w (aD tb (i+g*3))=some (.slice (aD u y) n cr))(hR:w (aD u (y+k))=some (.slice J (dv x b a rs) R))(U:bE w J 3 ((dv x b a rs).map rsC))
 (he:w (aD d 0)=some (.int .i64 F))(V:w.frozen? (aD d 0)=false)(n1:o≠d)(n2:tb≠d)(n3:u≠d)(n4:∀a,J=some a->a.block≠d)
 (hQ:∀(y12 y13 y14 X Y Z cM cR cS cW c1 c2 c4 c5 c7 c8 db dd di dl dy d9 ea ec ed eg eh ej ek el em ep:Aq)(W:AK),aj w d w W->W (aD d 0)=some (.int .i64 (pb x b a F rs:Nat))->W.frozen? (aD d 0)=false->Q .normal ⟨(x0::x1::x2::x3::x4::x5::.slice (aD tb i) N c6::.pointer (aD d 0)::.int .i64 g::x9::.pointer (aD o 0)::.int .i64 k::y12::y13::y14::ad::ae::af::ag::ai::al::am::an::ao::ap::aq::ar::cH::au::av::aw::ax::ay::az::aA::aB::aE::aF::aG::aH::aI::aJ::aK::aL::aM::aN::aO::aP::aQ::aR::aS::aT::aU::aV::aX::aY::aZ::a0::a1::a2::a3::a4::a5::a6::a7::a8::a9::ba::bb::bc::bd::be::bf::bg::bh::bi::bj::bk::bm::bn::bo::bp::bq::br::bs::bt::bu::bv::bw::bx::bz::bA::bB::bC::bD::bF::bG::bH::bI::bJ::bK::bL::bM::bN::bO::bP::X::Y::Z::cM::cR::cS::cW::c1::c2::c4::c5::c7::c8::db::dd::di::dl::dy::d9::ea::ec::ed::eg::eh::ej::ek::el::em::ep::cn::co::cp::cq::cs::ct::cu::cv::cw::cx::cy::cz::cA::cC::cD::cE::cG::[]).toArray,ds⟩ W):
 Qk.wp prog Q ⟨(x0::x1::x2::x3::x4::x5::.slice (aD tb i) N c6::.pointer (aD d 0)::.int .i64 g::x9::.pointer (aD o 0)::.int .i64 k::aa::ab::ac::ad::ae::af::ag::ai::al::am::an::ao::ap::aq::ar::cH::au::av::aw::ax::ay::az::aA::aB::aE::aF::aG::aH::aI::aJ::aK::aL::aM::aN::aO::aP::aQ::aR::aS::aT::aU::aV::aX::aY::aZ::a0::a1::a2::a3::a4::a5::a6::a7::a8::a9::ba::bb::bc::bd::be::bf::bg::bh::bi::bj::bk::bm::bn::bo::bp::bq::br::bs::bt::bu::bv::bw::bx::bz::bA::bB::bC::bD::bF::bG::bH::bI::bJ::bK::bL::bM::bN::bO::bP::bQ::bS::bT::bU::bV::bW::bY::bZ::b0::b1::b2::b3::b4::b5::b6::b7::b8::b9::ca::cc::cd::ce::cf::cg::ch::ci::cj::ck::cm::cn::co::cp::cq::cs::ct::cu::cv::cw::cx::cy::cz::cA::cC::cD::cE::cG::[]).toArray,ds⟩ w:=by
 replace hQ:=Zp hQ;have ho:=bX h0;have eq:=bX hT;have er:=bX hR;have M:=bX he;simp only at ho eq er M;have e1:(aD lb lo:Es).add k=aD lb (lo+k):=by simp[Addr.add]
 have e2:(aD tb i:Es).add (g*3)=aD tb (i+g*3):=by simp[Addr.add]
 have e3:(aD u y:Es).add k=aD u (y+k):=by simp[Addr.add]
 have hkn':(k:Int)<n:=oM;have hat':(g:Int)<N:=oM;have E:=JA A' K rs hl w hr;replace E:=Zp E;conv=>arg 2;whnf
 go_upto_region 23 with(go_at_call 23;refine E.out.mono ?_;rintro e D⟨v1,rfl,et,j⟩);obtain⟨A1,eu,rfl,G⟩:=dn LN et;have ev:∀a,A1=some a->a.block≠d:=λa ha=>by
  subst ha;have:=(ak et rfl).1;omega
 have ew:=j.size;have g0:D (aD o 0)=some (.int .i64 kd):=(j.cell (p:=aD o 0) ho).trans h0;have g1:D (aD o 1)=some (.int .i64 a):=(j.cell (p:=aD o 1) ho).trans h1;have gT:D (aD tb (i+g*3))=some (.slice (aD u y) n cr):=(j.cell (p:=aD tb (i+g*3)) eq).trans hT;have S:D (aD u (y+k))=some (.slice J (dv x b a rs) R):=(j.cell (p:=aD u (y+k)) er).trans hR;have ge:D (aD d 0)=some (.int .i64 F):=(j.cell (p:=aD d 0) M).trans he;have H:D.frozen? (aD d 0)=false:=(j.frozen (p:=aD d 0) M).trans V;have gr3:=U.below j;clear h0 h1 h7 hL hT hR he V E hr U;have ex:((dv x b a rs):Nat)<=1048576:=by
  unfold dv;split
  .rw[aao];exact hl
  rw[aao,rV];unfold cJ;split<;>omega
 have hrx:∀t,t∈dv x b a rs->t.2.1<256:=λt ht=>by
  unfold dv at ht;split at ht
  .obtain⟨r,_,rfl⟩:=acp.1 ht;exact hx r
  obtain⟨r,_,rfl⟩:=acp.1 ht;exact hx r
 have z:∀(l:AK)(L:Option Es)(v:Nat),bE l L 3 ((dv x b a rs).map rvC)->aj D d D l->Bf prog 26 #[.slice J (dv x b a rs) R,.slice L (dv x b a rs) v] l λe w'=>e=.returned (.bool true)/\Np l l w':=λl L v h2 h=>
  zo J L R v _ ex hrx l (gr3.belowX h n4) h2
 replace z:=Zp z;cases b with
 |true=>
  have q:=Cg hx d F hF A1 eu rs hl D T G ev oM ge H;replace q:=Zp q;have hm:((dv x true a rs):Nat)=rs:=by
   unfold dv;rw[ZC rfl,aao]
  rw[hm]at S;clear ge H G;go_upto_region 26 with(go_at_call 24;refine q.out.mono ?_;rintro e l⟨v2,rfl,A,h,B,O⟩);obtain⟨L,v,rfl,C⟩:=dn (f:=λr=>fR (x r)) (λ_=>rfl) A;have hs2:=h.size;have kT:l (aD tb (i+g*3))=some (.slice (aD u y) n cr):=(h.cell (p:=aD tb (i+g*3)) (show tb<_ by omega) n2).trans gT;have kR:l (aD u (y+k))=some (.slice J rs R):=(h.cell (p:=aD u (y+k)) (show u<_ by omega) n3).trans S;have I:=z.out l L v (by
   unfold dv;rw[ZC rfl,adZ];exact C) h
  rw[hm]at I;replace I:=Zp I;have P:pb x true a F rs=F|||orL x rs:=by
   unfold pb;rw[ZC rfl]
  rw[<-P]at B;clear g0 g1 gT S q A C z
  go_wp2_with(go_at_call 26;refine I.out.mono ?_;rintro e w3⟨rfl,s⟩)
  have hs3:=s.size;have f1:aj w d w w3:=((aj.of j).trans (aj.low h ew)).trans (aj.of (s.mono (show (w:Nat)<=l by omega)));have f2:=(s.cell (p:=aD d 0) (show d<l by omega)).trans B;have f3:=(s.frozen (p:=aD d 0) (show d<l by omega)).trans O;refine hQ.out ?_ ?_ ?_ ?_ ?_ ?_ ?_ ?_ ?_ ?_ ?_ ?_ ?_ ?_ ?_ ?_ ?_ ?_ ?_ ?_ ?_ ?_ ?_ ?_ ?_ ?_ ?_ ?_ ?_ ?_ ?_ ?_ w3 ?_ ?_ ?_
  .exact f1
  .exact f2
  exact f3
 |false=>
  have q:=Ig hx d F hF A1 eu rs hl a D T G ev oM ge H;replace q:=Zp q;have hm:(dv x false a rs)=cJ rs a:=by
   unfold dv;rw[Zr dC,aao,rV]
  rw[hm]at S;clear ge H G;go_upto_region 26 with(go_at_call 25;refine q.out.mono ?_;rintro e l⟨v2,rfl,A,h,B,O⟩);obtain⟨L,v,e2,C⟩:=dn (f:=λr=>fR (x r)) (rs:=rs.take (cJ rs a)) (λ_=>rfl) (by rw[show(rs.take (cJ rs a))=cJ rs a from rV a rs];exact A);rw[show(rs.take (cJ rs a))=cJ rs a from rV a rs]at e2;subst e2;have hs2:=h.size;have kT:l (aD tb (i+g*3))=some (.slice (aD u y) n cr):=(h.cell (p:=aD tb (i+g*3)) (show tb<_ by omega) n2).trans gT;have kR:l (aD u (y+k))=some (.slice J (cJ rs a) R):=(h.cell (p:=aD u (y+k)) (show u<_ by omega) n3).trans S;have I:=z.out l L v (by
   unfold dv;rw[Zr dC,adZ];exact C) h
  rw[hm]at I;replace I:=Zp I;have P:pb x false a F rs=aW x F (rs.take (cJ rs a)):=by
   unfold pb;rw[Zr dC];rfl
  rw[<-P]at B;clear g0 g1 gT S q A C z
  go_wp2_with(go_at_call 26;refine I.out.mono ?_;rintro e w3⟨rfl,s⟩)
  have hs3:=s.size;have f1:aj w d w w3:=((aj.of j).trans (aj.low h ew)).trans (aj.of (s.mono (show (w:Nat)<=l by omega)));have f2:=(s.cell (p:=aD d 0) (show d<l by omega)).trans B;have f3:=(s.frozen (p:=aD d 0) (show d<l by omega)).trans O;refine hQ.out ?_ ?_ ?_ ?_ ?_ ?_ ?_ ?_ ?_ ?_ ?_ ?_ ?_ ?_ ?_ ?_ ?_ ?_ ?_ ?_ ?_ ?_ ?_ ?_ ?_ ?_ ?_ ?_ ?_ ?_ ?_ ?_ w3 ?_ ?_ ?_
  .exact f1
  .exact f2
  exact f3
end
section
open Go.RowKit Go.Shelf
variable{F:Nat}{b:Bool}{stop:Int}{x:LR->Nat×Nat×Bool}
def MC:Code:=match Ai with|.seq _ (.seq _ (.seq _ (.seq c _)))=>c|_=>.skip
def q9(x:LR->Nat×Nat×Bool)(b:Bool)(stop:Int)(F:Nat)(a:List (List LR)):Nat:=a.foldl (pb x b stop) F
def CV{a:List (List LR)}{i:Nat}{rs:List LR}(h:a[i]?=rs):q9 x b stop F (a.take (i+1))=pb x b stop (q9 x b stop F (a.take i)) rs:=by
 obtain⟨c,rfl⟩:=ZL.1 h;unfold q9;rw[aas c,ab3];rfl
def DS(c:∀r,(x r).2.1<256)(l:List LR):orL x l<256:=by
 unfold orL;have a:∀(l:List LR)(f:Nat),f<256->l.foldl (λf r=>f|||(x r).2.1) f<256:=by
  intro l;induction l with
  |nil=>intro f h;exact h
  |cons r l d=>intro f h;exact d _ (tu h (c r))
 exact a l 0 oM
def Ke(a:∀r,(x r).2.1<256)(c:F<256)(rs:List LR):pb x b stop F rs<256:=by
 unfold pb;split
 .exact tu c (DS a rs)
 exact sW a _ _ c
def nh(c:∀r,(x r).2.1<256):∀(a:List (List LR))(F:Nat),F<256->q9 x b stop F a<256
 |[],_,h=>h
 |rs::a,F,h=>nh c a _ (Ke c h rs)
def z7{x0 x1 x2 x3 x4 x5 x9 aa ab ac ad ae af ag ai ak al am an ao ap aq ar cC au av aw ax ay az aA aB aE aF aG aH aI aJ aK aL aM aN aO aP aQ aR aS aT aU aV aW aX aY aZ a0 a1 a2 a3 a4 a5 a6 a7 a8 a9 ba bb bc bd be bf bg bi bj bk bm bn bo bp bq br bs bt bu bv bw bx bz bA bB bC bD bE bF bG bH bI bJ bK bL bM bN bO bP bQ bS bT bU bV bW bX bY bZ b0 b1 b2 b3 b4 b5 b6 b7 b8 b9 ca cc cd ce cf cg ch ci cj ck cl cm cn co cp cq cr cs ct cu cv cw cx cy cz cA:Aq}{ds:List Deferred}{Q:Exit->Act->AK->Prop}{w:AK}(d o tb s N c6 h:Nat)(A' A3:Option Es)(y c3:Nat)(kd a:Int)(b:Bool)(hkd:(kd==4)=b)(e:List (List LR))(hls:(e:Nat)<=1048576)(B:∀rs,rs∈e->(rs:Nat)<=1048576)(x:LR->Nat×Nat×Bool)(hx:∀r,(x r).2.1<256)(F:Nat)(hF:F<256)
 (C:∀rs,rs∈e->∀r,r∈rs->∀W,Bf prog 35 #[eV r.o r.m r.a r.b r.c] W (ah (x r).1 (x r).2.1 (x r).2.2 W))
 (hat:h<N)(n1:o≠d)(n2:tb≠d)
 (D:∀W:AK,aj w d w W->W (aD o 0)=some (.int .i64 kd)/\W (aD o 1)=some (.int .i64 a)/\W (aD o 7)=some (.slice A' e y)/\bh W A' 5 (e.map (·.map lrC))/\W (aD tb (s+h*3))=some (.slice A3 e c3)/\bh W A3 3 (e.map λrs=>(dv x b a rs).map rsC))
 (E:∀(W:AK)(k:Nat)(a':Es)(I:Option Es)(n c:Nat),k<e->aj w d w W->A3=a'->a'.block≠d/\(W (aD a'.block (a'.off+k))=some (.slice I n c)->∀p,I=some p->p.block≠d))
 (he:w (aD d 0)=some (.int .i64 F))(hez:w.frozen? (aD d 0)=false)
 (hQ:∀⦃y2 y11 y12 y13 y14 y99 J K L M O P R S T U V X Y Z cM cR cS cW c1 c2 c5 c7 c8 db dd di dl dy d9 ea ec ed eg eh ej:Aq⦄(W:AK),aj w d w W->W (aD d 0)=some (.int .i64 (q9 x b a F e:Nat))->W.frozen? (aD d 0)=false->Q .normal ⟨(x0::x1::y2::x3::x4::x5::.slice (aD tb s) N c6::.pointer (aD d 0)::.int .i64 h::x9::.pointer (aD o 0)::y11::y12::y13::y14::ae::af::ag::ai::ak::al::am::an::ao::ap::aq::ar::cC::au::av::aw::ax::ay::az::aA::aB::aE::aF::aG::aH::aI::aJ::aK::aL::aM::aN::aO::aP::aQ::aR::aS::aT::aU::aV::aW::aX::aY::aZ::a0::a1::a2::a3::a4::a5::a6::a7::a8::a9::ba::bb::bc::bd::be::bf::bg::bi::bj::bk::bm::bn::bo::bp::bq::br::bs::bt::bu::bv::bw::bx::bz::bA::bB::bC::bD::bE::bF::bG::bH::y99::J::K::L::M::O::P::R::S::T::U::V::X::Y::Z::cM::cR::cS::cW::c1::c2::c5::c7::c8::db::dd::di::dl::dy::d9::ea::ec::ed::eg::eh::ej::ck::cl::cm::cn::co::cp::cq::cr::cs::ct::cu::cv::cw::cx::cy::cz::cA::[]).toArray,ds⟩ W):
 MC.wp prog Q ⟨(x0::x1::x2::x3::x4::x5::.slice (aD tb s) N c6::.pointer (aD d 0)::.int .i64 h::x9::.pointer (aD o 0)::aa::ab::ac::ad::ae::af::ag::ai::ak::al::am::an::ao::ap::aq::ar::cC::au::av::aw::ax::ay::az::aA::aB::aE::aF::aG::aH::aI::aJ::aK::aL::aM::aN::aO::aP::aQ::aR::aS::aT::aU::aV::aW::aX::aY::aZ::a0::a1::a2::a3::a4::a5::a6::a7::a8::a9::ba::bb::bc::bd::be::bf::bg::bi::bj::bk::bm::bn::bo::bp::bq::br::bs::bt::bu::bv::bw::bx::bz::bA::bB::bC::bD::bE::bF::bG::bH::bI::bJ::bK::bL::bM::bN::bO::bP::bQ::bS::bT::bU::bV::bW::bX::bY::bZ::b0::b1::b2::b3::b4::b5::b6::b7::b8::b9::ca::cc::cd::ce::cf::cg::ch::ci::cj::ck::cl::cm::cn::co::cp::cq::cr::cs::ct::cu::cv::cw::cx::cy::cz::cA::[]).toArray,ds⟩ w:=by
 replace hQ:=Zp hQ;replace D:=Zp D;replace E:=Zp E;replace C:=Zp C;replace B:=Zp B;conv=>arg 2;whnf
 go_wp2
 go_loopw[11] (λi wr=>∃k:Nat,k<=e/\i=.int .i64 k/\aj w d w wr/\wr (aD d 0)=some (.int .i64 (q9 x b a F (e.take k):Nat))/\wr.frozen? (aD d 0)=false) (λi _=>e-(intOf i).toNat)
 case atStart=>exact⟨0,Z7 _,rfl,.refl _,he,hez⟩
 obtain⟨k,hk,rfl,H,t,j⟩:=hrel;obtain⟨h0,h1,h7,hL,hT,hR⟩:=D.out wr H;have hFk:=nh hx (b:=b) (stop:=a) (e.take k) F hF;by_cases u:k<e
 .obtain⟨rs,v⟩:∃rs,e[k]?=some rs:=⟨_,ZN u⟩;have z:=aae v;obtain⟨⟨lb,lo,lsp⟩,A1,ek,rfl,el,em,hc,l⟩:=hL k (rs.map lrC) (by rw[aaf,v];rfl);obtain⟨⟨rb,ro,rsp⟩,I,c4,rfl,A,G,q,g⟩:=hR k ((dv x b a rs).map rsC) (by rw[aaf,v];rfl);simp only at el A em G hc q;subst el A;rw[aao]at hc q;have hn:=E.out wr k _ I (dv x b a rs) c4 u H rfl;have hkp:(k:Int)<e:=oM;have f:=CV (x:=x) (b:=b) (stop:=a) (F:=F) v;replace f:=Zp f;have hrl:=B.out rs z;have hdo:=C.out rs z;refine abZ ?_;intro K1 g1;replace g1:=Zp g1
  go_wp2
  refine g1.out _ _ ?_;refine abZ ?_;intro K2 g2;replace g2:=Zp g2;refine wp_block ?_;refine C7 d o tb s N c6 h k e lb lo y rb ro c3 A1 I ek c4 kd a b hkd rs hrl x hx _ oM hdo h0 h1 h7 u hc l hat hT q g t j n1 n2 hn.1 (hn.2 q) ?_;intros;rename_i W ep eq er;have hB':aj w d w W:=H.trans (ep.low H.size);rw[<-f.out]at eq;refine g2.out _ _ ?_;clear h0 h1 h7 hL hT hR hc q l g ep H t j
  go_wp2
  go_roundw
  case rel=>exact⟨k+1,u,by go_num,hB',eq,er⟩
  simp[intOf];omega
 obtain rfl:k=e:=oM;rw[aaL]at t;clear hL hR
 go_wp2
 exact hQ.out wr H t j
end
section
open Go.RowKit Go.Shelf
variable{w:AK}
def pL(d:Nat)(w:AK)(A:Option Es)(size:Nat)(e:List (List (List Aq))):Prop:=
 ∀(i:Nat)(b:List (List Aq)),e[i]?=b->∃a A' c,A=some a/\a.spot=none/\a.block<d/\w (aD a.block (a.off+i))=some (.slice A' b c)/\(∀p,A'=some p->p.block<d)/\bE w A' size b
section
variable{eb B size:Nat}{w v:AK}{A:Option Es}{ls:List (List (List Aq))}
def bE.lowX{b:List (List Aq)}(h:bE w A size b)(d:aj B eb w v)(g:b≠[]->∀p,A=some p->p.block<eb)(o:eb<=B):bE v A size b:=λk cs e=>by
 obtain⟨a,f,i,j,l⟩:=h k cs e;have m:=g (by rintro rfl;simp at e) a f;exact⟨a,f,i,ZB j d.size,λc u n=>(d.cell (p:=aD a.block (a.off+k*size+c)) (show a.block<B by omega) (show a.block≠eb by omega)).trans (l c u n)⟩
def pL.belowX(h:pL eb w A size ls)(d:aj B eb w v)(f:eb<=B):pL eb v A size ls:=λi b g=>by
 obtain⟨a,A',c,j,k,l,m,e,n⟩:=h i b g;exact⟨a,A',c,j,k,l,(d.cell (p:=aD a.block (a.off+i)) (show a.block<B by omega) (show a.block≠eb by omega)).trans m,e,n.lowX d (λ_=>e) f⟩
def pL.lists(h:pL eb w A size ls):bh w A size ls:=λi b e=>by
 obtain⟨a,A',c,f,g,k,d,l,j⟩:=h i b e;exact⟨a,A',c,f,g,bX (p:=aD a.block (a.off+i)) d,d,j⟩
def lA(eb:Nat)(w:AK)(A:Option Es)(size:Nat)(ls:List (List (List Aq))):Prop:=
 ∀(i:Nat)(b:List (List Aq)),ls[i]?=b->∃a A' c,A=some a/\a.spot=none/\a.block<eb/\w (aD a.block (a.off+i))=some (.slice A' b c)/\(b≠[]->∀p,A'=some p->p.block<eb)/\bE w A' size b
def lA.belowX(h:lA eb w A size ls)(d:aj B eb w v)(f:eb<=B):lA eb v A size ls:=λi b g=>by
 obtain⟨a,A',c,j,k,l,m,e,n⟩:=h i b g;exact⟨a,A',c,j,k,l,(d.cell (p:=aD a.block (a.off+i)) (show a.block<B by omega) (show a.block≠eb by omega)).trans m,e,n.lowX d e f⟩
def lA.lists(h:lA eb w A size ls):bh w A size ls:=λi b e=>by
 obtain⟨a,A',c,f,g,k,d,l,j⟩:=h i b e;exact⟨a,A',c,f,g,bX (p:=aD a.block (a.off+i)) d,d,j⟩
end
structure uo(eb:Nat)(w:AK)(tb o:Nat)(A':Option Es)(cap':Nat)(td:TD):Prop where
 lt:tb<eb
 c0:w (aD tb o)=some (.slice A' td.res cap')
 c1:w (aD tb (o+1))=some (.bool true)
 c2:w (aD tb (o+2))=some (.int .u8 td.fl)
 pl:∀p,A'=some p->p.block<eb
 l:pL eb w A' 3 (td.res.map (·.map rsC))
def uo.belowX{d B:Nat}{v:AK}{tb o:Nat}{A':Option Es}{a:Nat}{f:TD}(h:uo d w tb o A' a f)(e:aj B d w v)(g:d<=B):uo d v tb o A' a f:=by
 have i:=h.lt;have b:tb<B:=oM;have c:tb≠d:=oM;exact⟨h.lt,(e.cell (p:=aD tb o) b c).trans h.c0,(e.cell (p:=aD tb (o+1)) b c).trans h.c1,(e.cell (p:=aD tb (o+2)) b c).trans h.c2,h.pl,h.l.belowX e g⟩
def HO:Code:=match Ai with|.seq _ (.seq _ c)=>c|_=>.skip
def Ly{x0 x1 x2 x3 x4 x5 x9 aa ab ac ad ae af ag ai ak al am an ao ap aq ar cI au av aw ax ay az aA aB aE aF aG aH aI aJ aK aL aM aN aO aP aQ aR aS aT aU aV aW aX aY aZ a0 a1 a3 a4 a5 a6 a7 a8 a9 ba bb bc bd be bf bg bi bj bk bm bn bo bp bq br bs bt bu bv bw bx bz bA bB bC bD bF bG bH bI bJ bK bL bM bN bO bP bQ bS bT bU bV bW bY bZ b0 b1 b2 b3 b4 b5 b6 b7 b8 b9 ca cc cd ce cf cg ch ci cj ck cl cm cn co cq cr ct cu cv cw cx cy cz cA cC cD cE cG cH:Aq}{ds:List Deferred}{Q:Exit->Act->AK->Prop}(d o tb h N c6 e:Nat)(A' I:Option Es)(u c3:Nat)(kd a:Int)(b:Bool)(hkd:(kd==4)=b)(i:List (List LR))(hat:e<N)(hNl:N<=1048576)(B:TD)(x:LR->Nat×Nat×Bool)(hx:∀r,(x r).2.1<256)(F:Nat)(hF:F<256)
 (hls:(i:Nat)<=1048576)(hll:∀rs,rs∈i->(rs:Nat)<=1048576)(D:lA d w A' 5 (i.map (·.map lrC)))
 (h0:w (aD o 0)=some (.int .i64 kd))(h1:w (aD o 1)=some (.int .i64 a))(h7:w (aD o 7)=some (.slice A' i u))(hoe:d<o)
 (J:B.res=i.map (dv x b a))(K:B.fl=q9 x b a F i)(g:uo d w tb (h+e*3) I c3 B)
 (hDo:∀rs,rs∈i->∀r,r∈rs->∀W,Bf prog 35 #[eV r.o r.m r.a r.b r.c] W (ah (x r).1 (x r).2.1 (x r).2.2 W))
 (he:w (aD d 0)=some (.int .i64 F))(L:w.frozen? (aD d 0)=false)
 (hQ:∀⦃y2 y11 y12 y13 y14 y75 y76 y77 y78 y79 y80 y81 y82 y83 y84 y85 y86 y87 y88 y89 y90 y91 y92 y93 y94 y95 y96 y97 y98 y99 M O P R S T U V X Y Z cM cR cS cW c4 c5 c7 c8 db dd di dl dy d9 ea ec ed eg eh ej ek el em ep eq er et eu ev ew ex ez eB eC eE eM eN:Aq⦄(W:AK),aj w d w W->W (aD d 0)=some (.int .i64 B.fl)->W.frozen? (aD d 0)=false->Q .normal ⟨(x0::x1::y2::x3::x4::x5::.slice (aD tb h) N c6::.pointer (aD d 0)::.int .i64 (e+1:Nat)::x9::.pointer (aD o 0)::y11::y12::y13::y14::ae::af::ag::ai::ak::al::am::an::ao::ap::aq::ar::cI::au::av::aw::ax::ay::az::aA::aB::aE::aF::aG::aH::aI::aJ::aK::aL::aM::aN::aO::aP::aQ::aR::aS::aT::aU::aV::aW::aX::aY::aZ::a0::a1::a3::a4::a5::a6::a7::a8::a9::ba::bb::bc::bd::be::bf::bg::bi::y75::y76::y77::y78::y79::y80::y81::y82::y83::y84::y85::y86::y87::y88::y89::y90::y91::y92::y93::y94::y95::y96::y97::y98::y99::M::O::P::R::S::T::U::V::X::Y::Z::cM::cR::cS::cW::c4::c5::c7::c8::db::dd::di::dl::dy::d9::ea::ec::ed::eg::eh::ej::ek::el::em::ep::eq::er::et::eu::ev::ew::ex::ez::eB::eC::eE::eM::eN::cD::cE::cG::cH::[]).toArray,ds⟩ W):
 HO.wp prog Q ⟨(x0::x1::x2::x3::x4::x5::.slice (aD tb h) N c6::.pointer (aD d 0)::.int .i64 e::x9::.pointer (aD o 0)::aa::ab::ac::ad::ae::af::ag::ai::ak::al::am::an::ao::ap::aq::ar::cI::au::av::aw::ax::ay::az::aA::aB::aE::aF::aG::aH::aI::aJ::aK::aL::aM::aN::aO::aP::aQ::aR::aS::aT::aU::aV::aW::aX::aY::aZ::a0::a1::a3::a4::a5::a6::a7::a8::a9::ba::bb::bc::bd::be::bf::bg::bi::bj::bk::bm::bn::bo::bp::bq::br::bs::bt::bu::bv::bw::bx::bz::bA::bB::bC::bD::bF::bG::bH::bI::bJ::bK::bL::bM::bN::bO::bP::bQ::bS::bT::bU::bV::bW::bY::bZ::b0::b1::b2::b3::b4::b5::b6::b7::b8::b9::ca::cc::cd::ce::cf::cg::ch::ci::cj::ck::cl::cm::cn::co::cq::cr::ct::cu::cv::cw::cx::cy::cz::cA::cC::cD::cE::cG::cH::[]).toArray,ds⟩ w:=by
 replace hQ:=Zp hQ;have heb:=bX he;have C:=bX h0;simp only at heb C;have eat:(aD tb h:Es).add (e*3)=aD tb (h+e*3):=by simp[Addr.add]
 have hap:(e:Int)<N:=oM;have E:(B.res:Nat)=i:=by rw[J,aao]
 have hfl:B.fl<256:=by rw[K];exact nh hx i F hF
 have t0:=g.c0;have t1:=g.c1;rw[E]at t0;have f:∀W:AK,aj w d w W->W (aD o 0)=some (.int .i64 kd)/\W (aD o 1)=some (.int .i64 a)/\W (aD o 7)=some (.slice A' i u)/\bh W A' 5 (i.map (·.map lrC))/\W (aD tb (h+e*3))=some (.slice I i c3)/\bh W I 3 (i.map λrs=>(dv x b a rs).map rsC):=λW v=>by
  have hd:=g.belowX v oM;refine⟨(v.cell (p:=aD o 0) C (show o≠d by omega)).trans h0,(v.cell (p:=aD o 1) C (show o≠d by omega)).trans h1,(v.cell (p:=aD o 7) C (show o≠d by omega)).trans h7,(D.belowX v oM).lists,by rw[<-E];exact hd.c0,?_⟩;have:=hd.l.lists;rw[J,adZ]at this;exact this
 have q:∀(W:AK)(k:Nat)(a':Es)(A4:Option Es)(n c:Nat),k<(i:Nat)->aj w d w W->I=some a'->a'.block≠d/\(W (aD a'.block (a'.off+k))=some (.slice A4 n c)->∀p,A4=some p->p.block≠d):=λW k a' A4 n c hk v hA=>by
  have hd:=g.belowX v oM;refine⟨by have:=hd.pl a' hA;omega,λhc p hp=>?_⟩;obtain⟨y,hrow⟩:∃y,(B.res.map (·.map rsC))[k]?=some y:=⟨_,ZN (by rw[aao,E];exact hk)⟩;obtain⟨a2,A5,cp,e1,_,_,e4,e5,_⟩:=hd.l k y hrow;rw[hA]at e1;cases e1;rw[hc]at e4;cases e4;have:=e5 p hp;omega
 replace f:=Zp f;replace q:=Zp q;replace D:=Zp D;replace g:=Zp g;conv=>arg 2;whnf
 refine abZ ?_;intro K1 g1;replace g1:=Zp g1;refine abZ ?_;intro K2 g2;replace g2:=Zp g2
 go_still_tail 23,(by kernel_rfl)
 have t:aj w d w w.drew:=(aj.refl _).drew;have G:w.drew (aD d 0)=some (.int .i64 F):=he;have z:w.drew.frozen? (aD d 0)=false:=L;change wpList _ _ _ _ _ w.drew;clear t0 t1 h0 h1 h7 he L;generalize w.drew=w2 at t G z⊢
 go_wp2
 refine g2.out _ _ ?_
 go_wp2
 refine g1.out _ _ ?_;refine abZ ?_;intro K3 g3;replace g3:=Zp g3;have H:=t.size;refine z7 d o tb h N c6 e A' I u c3 kd a b hkd i hls hll x hx F hF hDo hat oM (by have:=g.out.lt;omega) (λW v=>f.out W (t.trans (v.low H))) (λW k a' A4 n c hk v hA=>q.out W k a' A4 n c hk (t.trans (v.low H)) hA) G z ?_;intros;rename_i W hW j s;rw[<-K]at j;have A:aj w d w W:=t.trans (hW.low H);have t2:=(g.out.belowX A oM).c2;clear hW t G z f q;refine g3.out _ _ ?_;refine abZ ?_;intro K4 g4;replace g4:=Zp g4;refine abZ ?_;intro K5 g5;replace g5:=Zp g5;have hwr:IntKind.i64.wrap (B.fl:Int)=B.fl:=by rw[ZZ];omega
 go_still_tail 10,(by kernel_rfl)
 replace A:aj w d w W.drew:=A.drew;replace j:W.drew (aD d 0)=some (.int .i64 B.fl):=j;replace s:W.drew.frozen? (aD d 0)=false:=s;change wpList _ _ _ _ _ W.drew;clear t2;generalize W.drew=W2 at A j s⊢;replace j:=Zp j
 go_wp2
 refine g5.out _ _ ?_
 go_wp2
 refine g4.out _ _ ?_
 go_wp2
 exact hQ.out W2 A j.out s
end
section
open Go.RowKit Go.Shelf
def BV{x1 x2 x3 x4 x5 aa ac ad ae af ag ai ak al am an ap aq ar cG au av aw ax ay az aA aB aE aF aG aH aI aJ aK aL aM aN aO aP aQ aR aS aT aU aV aW aX aY aZ a0 a1 a2 a3 a4 a5 a6 a7 a8 a9 ba bb bc bd be bf bg bh bi bj bk bm bn bo bp bq br bs bt bu bv bw bx bz bA bB bC bD bE bF bG bH bI bJ bK bL bM bN bO bP bQ bS bT bU bV bW bY bZ b0 b1 b2 b3 b4 b5 b6 b7 b8 b9 ca cc cd ce cf cg ch ci cj ck cl cm cn co cp cq cr cs ct cu cv cw cx cy cz cA cC cD cE:Aq}{ds:List Deferred}{Q:Exit->Act->AK->Prop}{w:AK}(e u v tb k n cap N c6 j i:Nat)(A' A3:Option Es)(d c3:Nat)(s:Sop)(hk:s.kd=3\/s.kd=4)(hs:uv w u (v+i*8) A' d s)(hin:i<n)(hat:j<N)(hNl:N<=1048576)(A:TD)(x:LR->Nat×Nat×Bool)(hx:∀r,(x r).2.1<256)(F:Nat)(hF:F<256)
 (hls:(s.ls:Nat)<=1048576)(hll:∀rs,rs∈s.ls->(rs:Nat)<=1048576)(B:lA e w A' 5 (s.ls.map (·.map lrC)))
 (C:A.res=s.ls.map (dv x (s.kd==4) s.a))(D:A.fl=q9 x (s.kd==4) s.a F s.ls)(E:uo e w tb (k+j*3) A3 c3 A)
 (hDo:∀rs,rs∈s.ls->∀r,r∈rs->∀W,Bf prog 35 #[eV r.o r.m r.a r.b r.c] W (ah (x r).1 (x r).2.1 (x r).2.2 W))
 (he:w (aD e 0)=some (.int .i64 F))(hez:w.frozen? (aD e 0)=false)
 (hQ:∀⦃y2 y10 y11 y12 y13 y14 y63 y64 y65 y66 y67 y68 y69 y70 y71 y72 y73 y74 y75 y76 y77 y78 y79 y80 y81 y82 y83 y84 y85 y86 y87 y88 y89 y90 y91 y92 y93 y94 y95 y96 y97 y98 y99 G H I J K L M O P R S T U V X Y Z cM cR cS cW c8 db dd di dl dy d9 ea ec ed eg eh ej ek el em ep eq er et eu ev ew ex ez eB eC:Aq⦄(W:AK),aj w e w W->W (aD e 0)=some (.int .i64 A.fl)->W.frozen? (aD e 0)=false->Q .normal ⟨(.slice (aD u v) n cap::x1::y2::x3::x4::x5::.slice (aD tb k) N c6::.pointer (aD e 0)::.int .i64 (j+1:Nat)::.int .i64 i::y10::y11::y12::y13::y14::ag::ai::ak::al::am::an::ap::aq::ar::cG::au::av::aw::ax::ay::az::aA::aB::aE::aF::aG::aH::aI::aJ::aK::aL::aM::aN::aO::aP::aQ::aR::aS::aT::aU::aV::aW::aX::aY::aZ::a0::a1::a2::a3::a4::a5::a6::a7::y63::y64::y65::y66::y67::y68::y69::y70::y71::y72::y73::y74::y75::y76::y77::y78::y79::y80::y81::y82::y83::y84::y85::y86::y87::y88::y89::y90::y91::y92::y93::y94::y95::y96::y97::y98::y99::G::H::I::J::K::L::M::O::P::R::S::T::U::V::X::Y::Z::cM::cR::cS::cW::c8::db::dd::di::dl::dy::d9::ea::ec::ed::eg::eh::ej::ek::el::em::ep::eq::er::et::eu::ev::ew::ex::ez::eB::eC::cA::cC::cD::cE::[]).toArray,ds⟩ W):
 Ai.wp prog Q ⟨(.slice (aD u v) n cap::x1::x2::x3::x4::x5::.slice (aD tb k) N c6::.pointer (aD e 0)::.int .i64 j::.int .i64 i::aa::ac::ad::ae::af::ag::ai::ak::al::am::an::ap::aq::ar::cG::au::av::aw::ax::ay::az::aA::aB::aE::aF::aG::aH::aI::aJ::aK::aL::aM::aN::aO::aP::aQ::aR::aS::aT::aU::aV::aW::aX::aY::aZ::a0::a1::a2::a3::a4::a5::a6::a7::a8::a9::ba::bb::bc::bd::be::bf::bg::bh::bi::bj::bk::bm::bn::bo::bp::bq::br::bs::bt::bu::bv::bw::bx::bz::bA::bB::bC::bD::bE::bF::bG::bH::bI::bJ::bK::bL::bM::bN::bO::bP::bQ::bS::bT::bU::bV::bW::bY::bZ::b0::b1::b2::b3::b4::b5::b6::b7::b8::b9::ca::cc::cd::ce::cf::cg::ch::ci::cj::ck::cl::cm::cn::co::cp::cq::cr::cs::ct::cu::cv::cw::cx::cy::cz::cA::cC::cD::cE::[]).toArray,ds⟩ w:=by
 replace hQ:=Zp hQ;have p:=bX he;simp only at p;obtain⟨c0,c1,c2,c3',c4,c5,c6',c7,hl⟩:=hs;have ead:(aD u v:Es).add (i*8)=aD u (v+i*8):=by simp[Addr.add]
 have hip:(i:Int)<n:=oM;have l:aj w e w (aC w #[.int .i64 s.kd,.int .i64 s.a,.int .i64 s.op,.int .i64 s.md,.int .u64 s.x,.int .u64 s.y,.int .u64 s.z,.slice A' s.ls d] 31):=(aj.refl _).alloc (Zo _) _;have f:=B.belowX l oM;have g:=E.belowX l oM;have eE:(aC w #[.int .i64 s.kd,.int .i64 s.a,.int .i64 s.op,.int .i64 s.md,.int .u64 s.x,.int .u64 s.y,.int .u64 s.z,.slice A' s.ls d] 31) (aD e 0)=some (.int .i64 F):=(aaU _ _ _ p).trans he;have t:(aC w #[.int .i64 s.kd,.int .i64 s.a,.int .i64 s.op,.int .i64 s.md,.int .u64 s.x,.int .u64 s.y,.int .u64 s.z,.slice A' s.ls d] 31).frozen? (aD e 0)=false:=(abW _ _ _ p).trans hez;replace f:=Zp f;replace g:=Zp g;clear hl B E;have q:∀(eM eN eS eW e0 e3 e4 e5 e6 e8 e9 fa:Aq),HO.wp prog Q ⟨(.slice (aD u v) n cap::x1::x2::x3::x4::x5::.slice (aD tb k) N c6::.pointer (aD e 0)::.int .i64 j::.int .i64 i::.pointer (aD w 0)::ac::ad::ae::af::ag::ai::ak::al::am::an::ap::aq::ar::cG::au::av::aw::ax::ay::az::aA::aB::aE::aF::aG::aH::aI::aJ::aK::aL::aM::aN::aO::aP::aQ::aR::aS::aT::aU::aV::aW::aX::aY::aZ::a0::a1::a2::a3::a4::a5::a6::a7::eM::eN::eS::eW::e0::e3::e4::e5::e6::e8::e9::fa::bk::bm::bn::bo::bp::bq::br::bs::bt::bu::bv::bw::bx::bz::bA::bB::bC::bD::bE::bF::bG::bH::bI::bJ::bK::bL::bM::bN::bO::bP::bQ::bS::bT::bU::bV::bW::bY::bZ::b0::b1::b2::b3::b4::b5::b6::b7::b8::b9::ca::cc::cd::ce::cf::cg::ch::ci::cj::ck::cl::cm::cn::co::cp::cq::cr::cs::ct::cu::cv::cw::cx::cy::cz::cA::cC::cD::cE::[]).toArray,ds⟩ (aC w #[.int .i64 s.kd,.int .i64 s.a,.int .i64 s.op,.int .i64 s.md,.int .u64 s.x,.int .u64 s.y,.int .u64 s.z,.slice A' s.ls d] 31):=λeM eN eS eW e0 e3 e4 e5 e6 e8 e9 fa=>by
  refine Ly e w tb k N c6 j A' A3 d c3 s.kd s.a _ rfl s.ls hat hNl A x hx F hF hls hll f.out (by rw[ZK _ _ _ _ rfl];rfl) (by rw[ZK _ _ _ _ rfl];rfl) (by rw[ZK _ _ _ _ rfl];rfl) p C D g.out hDo eE t ?_;intros;rename_i W hW heW fb;exact hQ.out W (l.trans (hW.low l.size)) heW fb
 replace q:=Zp q;clear C D;conv=>arg 2;whnf
 rcases hk with h|h
 all_goals
  rw[h]at q c0;clear h l g f eE t;refine abZ ?_;intro K1 g1;replace g1:=Zp g1
  go_wp2
  refine g1.out _ _ ?_;refine abZ ?_;intro K2 g2;replace g2:=Zp g2
  go_wp2
  refine g2.out _ _ ?_;exact q.out _ _ _ _ _ _ _ _ _ _ _ _
end
section
open Go.RowKit Go.Shelf
def BX{C D E F G H I J aa K ad ae af L ah ai aj ak al M an N aq O cC au P R ax ay az aA aB aE aF aG aH aI aJ aK aL S aN aO aP aQ T U aT aU aV aW aX aY aZ V X Y Z a4 a5 a6 a7 a8 a9 ba bb bc bd be bf bg bh bi bj bk bm bn bo bp bq br bs bt bu bv bw bx bz bA bB bC bD bE bF bG bH bI bJ bK bL bM bN bO bP bQ bS bT bU bV bW bX bY bZ b0 b1 b2 b3 b4 b5 b6 b7 b8 b9 ca cc cd ce cf cg ch ci cj ck cl cm cn co cp cq cr cs ct cu cv cw cx cy cz cA:Aq}{ds:List Deferred}{Q:Exit->Act->AK->Prop}{w:AK}(c d n cap i:Nat)(A':Option Es)(b:Nat)(s:Sop)(e:¬(s.kd=3\/s.kd=4))(hs:uv w c (d+i*8) A' b s)(hin:i<n)
 (f:∀⦃g j k l m o p q r t u v A:Aq⦄(W:AK),Np w w W->Q (.exit 3) ⟨(.slice (aD c d) n cap::C::D::E::F::G::H::I::J::.int .i64 i::g::K::ad::ae::af::L::ah::ai::aj::ak::al::M::an::N::aq::O::cC::au::P::R::ax::ay::az::aA::aB::aE::aF::aG::aH::aI::aJ::aK::aL::S::aN::aO::aP::aQ::T::U::aT::aU::aV::aW::aX::aY::aZ::V::X::Y::Z::a4::a5::j::k::l::m::o::p::q::r::t::u::v::A::bi::bj::bk::bm::bn::bo::bp::bq::br::bs::bt::bu::bv::bw::bx::bz::bA::bB::bC::bD::bE::bF::bG::bH::bI::bJ::bK::bL::bM::bN::bO::bP::bQ::bS::bT::bU::bV::bW::bX::bY::bZ::b0::b1::b2::b3::b4::b5::b6::b7::b8::b9::ca::cc::cd::ce::cf::cg::ch::ci::cj::ck::cl::cm::cn::co::cp::cq::cr::cs::ct::cu::cv::cw::cx::cy::cz::cA::[]).toArray,ds⟩ W):
 Ai.wp prog Q ⟨(.slice (aD c d) n cap::C::D::E::F::G::H::I::J::.int .i64 i::aa::K::ad::ae::af::L::ah::ai::aj::ak::al::M::an::N::aq::O::cC::au::P::R::ax::ay::az::aA::aB::aE::aF::aG::aH::aI::aJ::aK::aL::S::aN::aO::aP::aQ::T::U::aT::aU::aV::aW::aX::aY::aZ::V::X::Y::Z::a4::a5::a6::a7::a8::a9::ba::bb::bc::bd::be::bf::bg::bh::bi::bj::bk::bm::bn::bo::bp::bq::br::bs::bt::bu::bv::bw::bx::bz::bA::bB::bC::bD::bE::bF::bG::bH::bI::bJ::bK::bL::bM::bN::bO::bP::bQ::bS::bT::bU::bV::bW::bX::bY::bZ::b0::b1::b2::b3::b4::b5::b6::b7::b8::b9::ca::cc::cd::ce::cf::cg::ch::ci::cj::ck::cl::cm::cn::co::cp::cq::cr::cs::ct::cu::cv::cw::cx::cy::cz::cA::[]).toArray,ds⟩ w:=by
 replace f:=Zp f;obtain⟨c0,c1,c2,c3',c4,c5,c6',c7,hl⟩:=hs;have ead:(aD c d:Es).add (i*8)=aD c (d+i*8):=by simp[Addr.add]
 have hip:(i:Int)<n:=oM;have e3:(s.kd==3)=false:=by rw[Zs];exact λh=>e (.inl h)
 have e4:(s.kd==4)=false:=by rw[Zs];exact λh=>e (.inr h)
 have B:Np w w (aC w #[.int .i64 s.kd,.int .i64 s.a,.int .i64 s.op,.int .i64 s.md,.int .u64 s.x,.int .u64 s.y,.int .u64 s.z,.slice A' s.ls b] 31):=(Zx _ _).alloc (Zo _) _;have n3:¬s.kd=3:=λh=>e (.inl h);have n4:¬s.kd=4:=λh=>e (.inr h);clear hl e;conv=>arg 2;whnf
 go_wp2
 all_goals first|exact f.out _ B|(exfalso;simp_all;done)
end
section
variable{i:Nat}{ops:List Sop}{x:LR->Nat×Nat×Bool}
def dr(x:LR->Nat×Nat×Bool)(f:Nat)(a:List Stp):Nat:=a.foldl (λf s=>(ky x f s).fl) f
def yN:∀(a:List Stp)(f k:Nat)(s:Stp),a[k]?=s->(gf x f a)[k]?=ky x (dr x f (a.take k)) s
 |[],f,k,s,h=>by simp at h
 |t::a,f,0,s,h=>by
  simp only[ZE,Zt]at h;subst h;rfl
 |t::a,f,k+1,s,h=>by
  simp only[ZI]at h;exact yN a (ky x f t).fl k s h
def BT{s:Sop}{t:Stp}(h:ops[i]?=some s)(a:stp s=some t):(aI ops)[((aI (ops.take i)):Nat)]?=some t:=by
 obtain⟨b,rfl⟩:=ZL.1 h;have e:ops=ops.take i++ops[i]::ops.drop (i+1):=by
  rw[List.getElem_cons_drop,List.take_append_drop]
 have e2:aI ops=aI (ops.take i)++(t::aI (ops.drop (i+1))):=by
  conv=>lhs;rw[e]
  unfold aI;rw[ads,List.filterMap_cons_some a]
 rw[e2,abu (Zo _),adk];rfl
def yQ(a:i<=ops):(aI ops).take (aI (ops.take i))=aI (ops.take i):=by
 have e2:aI ops=aI (ops.take i)++aI (ops.drop i):=by
  unfold aI;rw[<-ads,List.take_append_drop]
 rw[e2,List.take_left'];rfl
def re(b:∀r,(x r).2.1<256):∀(a:List Stp)(f:Nat),f<256->dr x f a<256
 |[],_,h=>h
 |s::a,f,h=>re b a _ (nh b s.ls f h)
end
namespace T
open Go.Conc Go.ConcN
variable{E:Nat}{Goal:Machine->Trace->Prop}{R:Act->AK->Prop}{Sh:Loc->Prop}{a:Act}{c:Code}{cs:List K0}{c₁:K0}{front front' k:List Item}{v v0 w wl:AK}{x:Aq}{α:Type}
def mL(g:α->Nat):∀(l:List α)(F:Nat),l.foldl (λF a=>F|||g a) F=F|||l.foldl (λF a=>F|||g a) 0
 |[],F=>sM
 |a::l,F=>by
  simp only[acE];rw[mL g l (F|||g a),mL g l (0|||g a),adI,abb]
def Cj(g:α->Nat){a:α}:∀{l:List α},a∈l->g a|||l.foldl (λF a=>F|||g a) 0=l.foldl (λF a=>F|||g a) 0
 |[],h=>by simp at h
 |b::l,h=>by
  simp only[acE];rw[mL,adI];rcases ZM.1 h with rfl|h
  .rw[<-abb,acn]
  have:=Cj g h
  calc g a|||(g b|||l.foldl (λF a=>F|||g a) 0)=g b|||(g a|||l.foldl (λF a=>F|||g a) 0):=by ac_rfl
   _=_:=by rw[this]
def zH(g:α->Nat){f:Nat}:∀{l:List α},(∀a,a∈l->g a|||f=f)->l.foldl (λF a=>F|||g a) 0|||f=f
 |[],_=>sM
 |b::l,h=>by
  simp only[acE];rw[mL,adI,abb,zH g (λa d=>h a (aai _ d)),h b ZJ]
def zI(g:α->Nat):∀{l:List α},(∀a,a∈l->g a<256)->l.foldl (λF a=>F|||g a) 0<256
 |[],_=>sM
 |b::l,h=>by
  simp only[acE];rw[mL,adI];exact tu (h b ZJ) (zI g λa d=>h a (aai _ d))
section
variable{m:Md}{gl:Nat->Bool}{dyn:Bool}{Sh:Loc->Prop}{w0:AK}{H:Array Obj}{Stop:Ar->(Nat->Prop)->AK->Prop}{P:E2}{main:Bool}
def items(L:Cx P m gl dyn)(N:∀b,(w0:Nat)<=b->m.GL b)(q:nC m Sh){fn:FuncId}(r:∃f,P.funcs[fn]?=some f)(O:∀F,F∈front->dp P m gl dyn F)(Q:front≠[])(I:dD m a)
 (d:∀T,Tr m (aK H T w0) w0)(s:∀T,∃a' w',Steps P (lone ((base fn).at a (front++[END])) [c0] (aK H T w0)) (lone ((base fn).at a' (front'++[END])) [c0] w')/\R a' w'){M:Nat->Prop}
 (j:∀a' wl v M',R a' wl->dD m a'->Did m (aK H (λ_ _=>0) w0) w0 wl v->an P main du (D1 Sh) Stop (G ((base fn).at a' (front'++k)) (c₁::cs)) M' v):
 an P main du (D1 Sh) Stop (G ((base fn).at a (front++k)) (c₁::cs)) M w0:=by
 have S:FP P m gl dyn k false ((base fn).at a (front++[END])) ((base fn).at a (front++k)):=
  ⟨fn,a.tmps,front,a.defers,.run,none,[END],k,⟨r,I.1,O,I.2,rfl,sM⟩,.inr ⟨rfl,rfl,rfl⟩,sM,rfl,rfl⟩
 refine aen bk (kW (l:=[]) (l':=[]) (Fin:=λgl' wl=>∃a',gl'=G ((base fn).at a' (front'++[END])) [c0]/\R a' wl) L N (Nt q) S .nil d (λT=>?_) M) ?_
 .obtain⟨a',w',i,J⟩:=s T;exact⟨_,_,w',i,a',rfl,J⟩
 rintro g M' v⟨gl',wl,⟨a',rfl,U⟩,u,n⟩;rcases u with⟨fr,fr',l,l',y,z,e1,rfl⟩|A
 .have o:=aal (λg:Ar=>g.callers) e1;have e:=aal (λg:Ar=>g.frame) e1;simp only[G]at o e;cases z with
  |cons i J=>simp at o
  |nil=>
   obtain⟨fn',K,B,p,mode,V,t,W,h,C,_,rfl,rfl⟩:=y;simp only[Frame.at,base,Frame.mk.injEq]at e;obtain⟨rfl,rfl,D,rfl,rfl,_,rfl⟩:=e;rcases C with⟨rfl,rfl⟩|⟨rfl,_,rfl⟩
   .exfalso;rw[ac6]at D;have:=h.items END (by rw[<-D];exact aci.2 (.inr (aag.2 rfl)));simp[END,dp,aG]at this
   obtain rfl:front'=B:=List.append_cancel_right D;exact j a' wl v M' U ⟨h.tmps,h.defers⟩ n
 exfalso;rcases A with⟨x,_,i,_⟩|⟨X,i,_⟩
 .have:=aal (λg:Ar=>g.callers) i;simp[G]at this
 have:=aal (λg:Ar=>g.callers) i;simp[G]at this
end
section
variable{Goal:Machine->Trace->Prop}{Sh:Loc->Prop}{w:AK}{b:K0}{a:Act}{k:List Item}{cs:List K0}{ops:Array Oper}{i:Nat}{rest:List Nat}{o:Oper}
def Way.op(d:ops[i]?=o)(e:Region.wanted o (yielded ops a.tmps))(f:b.kind≠.early)(g:∀v,(Lk a.eval o).run prog v=.ok (.value x) v)(j:∀v,(Lk a.eval o).events prog v #[]=#[])
 (h:Way Goal Sh (G (b.at (a.put o.dst x) (.inRegion ops rest::k)) cs) w):Way Goal Sh (G (b.at a (.inRegion ops (i::rest)::k)) cs) w:=
 .ctl rfl (λv=>by rw[stepG_value d e f (g v),aaw (j v)]) h
def ae7:=@Way.op
def Way.enter{f:FuncId}{fn':Func}{args:Array Operand}{ats:Array E1}(m:ops[i]?=o)(n:Region.wanted o (yielded ops a.tmps))(p:b.kind≠.early)(e:o.op=.call {callee:=.value (.func f),args,argTypes:=ats})(l:prog.funcs[f]?=fn')(d:(fn'.name== "runtime.NumGoroutine")=false)(q:fn'.body=c){vals:Array Aq}(j:args.map a.eval=vals)
 (h:Way Goal Sh (G (Frame.enter prog f vals .normal) (b.at a (.inRegion ops (i::rest)::k)::cs)) w):Way Goal Sh (G (b.at a (.inRegion ops (i::rest)::k)) cs) w:=by
 have g:fn'.body.isNone=false:=by rw[q];rfl
 have r:∀v,listed prog b.fn a o v=#[]:=λv=>by unfold listed;rw[events_call_body e l d g];exact Go.Conc.seen_none _ _
 refine .ctl rfl (λv=>by rw[stepG_enter m n p (run_call_body e l d g),r]) ?_;rw[j];exact h
end
abbrev mE(E:Nat)(Dd:Nat->Prop):Md:=mdC (λb=>E<=b) Dd
structure CG(E:Nat)(Dd:Nat->Prop)(v0 wl v:AK):Prop where
 tr:Tr (mE E Dd) wl v
 el:∃c t z,wl.heap[E]?=some (.cells c t z)
 eb:∃c t,v.heap[E]?=some (.cells c t (0,0))/\c.size=1
 old:∀b,b<E->v.heap[b]?=v0.heap[b]?
 dd:∀b,Dd b->E<b
 tape:v.tape=v0.tape
 os:v.os=v0.os
 out:v.output=v0.output
def CG.lt{Dd:Nat->Prop}(h:CG E Dd v0 wl v):E<v:=by
 obtain⟨c,t,h,_⟩:=h.eb;exact(Zq.1 h).1
def CG.did{Dd:Nat->Prop}{f:AK}(h:CG E Dd v0 wl w)(g:Did (mE E Dd) (aK wl.heap (λ_ _=>0) w) w f v)(j:∀b,b<E->f.heap[b]?=wl.heap[b]?):CG E Dd v0 f v:=by
 have l:=h.lt;obtain⟨c,t,z,m⟩:=h.el;obtain⟨d,d1,n,o,p,q,r,s,_⟩:=(g.stay E).cells c t z m;obtain⟨e,u,q1,y⟩:=h.eb;rw[o]at q1;simp only[Zt,ac5]at q1;obtain⟨rfl,rfl,rfl⟩:=q1;exact⟨g.tr,⟨_,_,_,q⟩,⟨d1,t,p,oM⟩,λb i=>(g.block (h.tr.lone _) (show¬E<=b by omega) oM (j b i)).trans (h.old b i),h.dd,g.tape.trans h.tape,g.os.trans h.os,g.out.trans h.out⟩
def Kf:∃f,prog.funcs[22]?=some f:=⟨_,func22⟩
def CG.items{Dd:Nat->Prop}(h:CG E Dd v0 wl w)(f:nC (mE E Dd) Sh)(l:∀i,i∈front->dp prog (mE E Dd) glC true i)(g:front≠[])(m:dD (mE E Dd) a)
 (n:∀W:AK,W.heap=wl.heap->∃a' w',Steps prog (lone ((base 22).at a (front++[END])) [c0] W) (lone ((base 22).at a' (front'++[END])) [c0] w')/\R a' w'/\∀b,b<E->w'.heap[b]?=W.heap[b]?)
(e:∀a' d v,R a' d->dD (mE E Dd) a'->CG E Dd v0 d v->Way Goal Sh (G ((base 22).at a' (front'++k)) (c₁::cs)) v):Way Goal Sh (G ((base 22).at a (front++k)) (c₁::cs)) w:=
 .of_gone (M:=λ_=>False) (T.items (R:=λa' w'=>R a' w'/\∀b,b<E->w'.heap[b]?=wl.heap[b]?) (cxC _ _) (λb o=>Zz (abw h.lt) o) f Kf l g m (λT=>h.tr.lone T) (λT=>n _ rfl)
  λa' d v _ j p q=>.stop λu r=>e a' d u j.1 p (h.did (q.eqv (.of_rel r)) j.2))
def CG.piece{Dd:Nat->Prop}(h:CG E Dd v0 wl w)(i:nC (mE E Dd) Sh)(l:aG prog bq glC true c)(m:dD (mE E Dd) a)
 (n:∀W:AK,W.heap=wl.heap->c.wp prog (λe a' w'=>e=.normal/\R a' w'/\∀b,b<E->w'.heap[b]?=W.heap[b]?) a W)
(d:∀a' f v,R a' f->dD (mE E Dd) a'->CG E Dd v0 f v->Way Goal Sh (G ((base 22).at a' k) (c₁::cs)) v):Way Goal Sh (G ((base 22).at a (.code c::k)) (c₁::cs)) w:=
 h.items (front:=[.code c]) (front':=[]) i (by intro q j;obtain rfl:=aag.1 j;exact l) sM m (λW e=>by
  obtain⟨e,a',w',⟨rfl,o,p⟩,g⟩:=n W e (base 22) [END] [c0];exact⟨a',w',g,o,p⟩) d
def At.put{l:List (Nat×Aq)}{d:List Nat}(h:At l d a){k:Nat}(e:k<154)(x:Aq)(f:∀p,p∈l->p.1≠k):At ((k,x)::l) d (a.put k x):=by
 refine⟨by simpa[Act.put]using h.1,h.2.1,λp b=>?_⟩;rcases ZM.1 b with rfl|b
 .simp[Act.put,h.1,e]
 have:=f p b;simp only[Act.put];rw[ZF oM];exact h.2.2 p b
def dD.put{m:Md}(h:dD m a){k:Option Nat}(d:m.V x):dD m (a.put k x):=by
 cases k with
 |none=>exact h
 |some k=>
  refine⟨λv e=>?_,h.2⟩;obtain⟨j,b⟩:=aaF.1 e;rcases gi b with⟨_,rfl⟩|b
  .exact d
  exact h.1 _ (ZS b)
end T
namespace T
open Go.Conc Go.ConcN
variable{B j:Nat}{V:Aq->Prop}{rs:List LR}{s:Stp}
def iY(r:LR):Rec:=⟨r.o,r.m,r.a,r.b,r.c⟩
structure Say(x:LR->Nat×Nat×Bool)(s:Stp):Prop where
 l:(s.ls:Nat)<=1048576
 ll:∀rs,rs∈s.ls->(rs:Nat)<=1048576
 calls:∀rs,rs∈s.ls->∀r,r∈rs->∀W,aT W->Bf prog 29 #[REC r.o r.m r.a r.b r.c] W (ai (x r).1 (x r).2.1 (x r).2.2 W)
 res:∀rs,rs∈s.ls->∀r,r∈rs->x r=(iY r).res
 ok:∀rs,rs∈s.ls->∀r,r∈rs->(iY r).Ok
def recs(s:Stp)(j:Nat):List Rec:=(s.ls.getD j []).map iY
def xC(h:s.ls[j]?=rs):recs s j=rs.map iY:=by
 unfold recs;rw[List.getD_eq_getElem?_getD,h];rfl
def Say.at{x:LR->Nat×Nat×Bool}(h:Say x s)(a:j<s.ls):∃rs,s.ls[j]?=some rs/\rs∈s.ls/\recs s j=rs.map iY:=by
 have e:=ZN a;exact⟨_,e,aae e,xC e⟩
section
variable{E n i cap:Nat}{A:Option Es}{ss:List Stp}{tds:List TD}{f:Nat}{u4:Aq}{Ds:List Nat}{s:Stp}{S Tb B₀:Nat}{u0 u8:Aq}{A':Option Es}{cap':Nat}{v0 wl w:AK}{Dd:Nat->Prop}{x:LR->Nat×Nat×Bool}
def NM(h:CG E Dd v0 wl w)(W:ga v0)(H:M22 E A ss tds f u4 Ds s S Tb B₀ u0 u8 A' cap' wl)(X:∀b,Dd b->b<S)(M:Say x s):
 ∃q z t v,u8=.slice q s.ls z/\Bu (λb=>¬Dd b) E s.ls q t v (recs s) w:=by
 have g1:=H.ES;have g2:=H.ST;have g3:=H.TB;have hz:=h.tr.size;have P:=h.lt;obtain⟨st,Q,Y⟩:=H.ls;obtain⟨q,z,rfl⟩:=ba Q;have d:∀g,B₀<=g->¬Dd g:=λg hg J=>by have:=X g J;omega
 let t:Nat->Option Es:=λj=>match st[j]? with|some (.slice A _ _)=>A|_=>none
 let v:Nat->Nat:=λj=>match st[j]? with|some (.slice _ _ c)=>c|_=>0
 have Z:(st:Nat)=s.ls:=by have:=Q.1;omega
 have m:∀j,j<(s.ls:Nat)->∃rs,s.ls[j]?=some rs/\rs∈s.ls/\recs s j=rs.map iY/\st[j]?=some (.slice (t j) rs (v j))/\wl.ownsRow B₀ 59 5 (.slice (t j) rs (v j)) rs (rs.flatMap gvC):=by
  intro j o;obtain⟨rs,C,y,p⟩:=M.at o;obtain⟨sv,D,I,_⟩:=Y j rs C;obtain⟨Aj,cj,rfl⟩:=ba I;have e1:t j=Aj:=by simp only[t,D]
  have e2:v j=cj:=by simp only[v,D]
  exact⟨rs,C,y,p,by rw[e1,e2];exact D,by rw[e1,e2];exact I⟩
 refine⟨q,z,t,v,rfl,⟨⟨λJ=>by have:=h.dd _ J;omega,P⟩,λJ=>by have:=h.dd _ J;omega,H.l.pos,W.low H.l.pos h.old,λj o=>?_,λj a o N=>?_,λj o k r K=>?_,M.l,λj o=>?_,λj o r K=>?_⟩⟩
 .obtain⟨rs,C,y,p,D,_⟩:=m j o;rcases Q.2 with⟨_,h0⟩|⟨g,c,L,e,q1,O,_,_,q5,q6⟩
  .omega
  simp only[abC]at e;obtain⟨rfl,_,rfl⟩:=e;have R:=(Zq.1 O).1;refine⟨aD g 0,rfl,d g q1,by show g<_;omega,by show g≠E;omega,rfl,?_⟩;have T:L[j]?=some (.slice (t j) rs (v j)):=by
   rw[<-D,<-q6,aau,ZC oM,aar]
  rw[p,aao];have:cF wl g (0+j) (.slice (t j) rs (v j)):=by
   rw[Z8];exact cell_of (a:=aD g j) O rfl T
  exact(h.tr.cell this).1
 .obtain⟨rs,C,y,p,D,I⟩:=m j o;rcases I.2 with⟨e,_⟩|⟨g,c,L,e,q1,O,_⟩
  .simp only[abC]at e;rw[e.1]at N;cases N
  simp only[abC]at e;rw[e.1]at N;cases N;have R:=(Zq.1 O).1;exact⟨d g q1,by show g<_;omega,by show g≠E;omega,rfl⟩
 .obtain⟨rs,C,y,p,D,I⟩:=m j o;rw[p,aaf]at K;obtain⟨U,F,rfl⟩:=ZX.1 K;obtain⟨A1,c1,e,G⟩:=dn eG I;simp only[abC]at e;obtain⟨e1,_,_⟩:=e;obtain⟨a,ha,hsp,_,T⟩:=G k (gvC U) (by rw[aaf,F];rfl);exact⟨a,e1.trans ha,λc u hu=>(h.tr.cell (T c u hu)).1⟩
 .obtain⟨rs,C,y,p,_⟩:=m j o;rw[p,aao];exact M.ll rs y
 obtain⟨rs,C,y,p,_⟩:=m j o;rw[p]at K;obtain⟨U,F,rfl⟩:=acp.1 K;exact M.ok rs y U F
def fW(x:LR->Nat×Nat×Bool)(s:Stp):Nat:=s.ls.foldl (λF rs=>F|||orL x rs) 0
def I4(h:∀r,r∈rs->x r=(iY r).res):fF (rs.map iY)=orL x rs:=by
 unfold fF orL;rw[List.foldl_map];have:∀(l:List LR)(F:Nat),(∀r,r∈l->x r=(iY r).res)->l.foldl (λf r=>f|||(iY r).res.2.1) F=l.foldl (λf r=>f|||(x r).2.1) F:=by
  intro l;induction l with
  |nil=>intros;rfl
  |cons a l c=>intro F b;simp only[acE];rw[<-b a ZJ];exact c _ λr d=>b r (aai _ d)
 exact this rs 0 h
def Say.flags(e:Say x s)(g:∀r,(x r).2.1<256):(∀j,j<(s.ls:Nat)->∀r,r∈recs s j->r.res.2.1<256/\r.res.2.1|||fW x s=fW x s)/\(∀f':Nat,(∀j,j<(s.ls:Nat)->fF (recs s j)|||f'=f')->fW x s|||f'=f')/\fW x s<256:=by
 refine⟨λj d r h=>?_,λf' l=>?_,zI _ λrs _=>DS g rs⟩
 .obtain⟨rs,o,k,m⟩:=e.at d;rw[m]at h;obtain⟨a,b,rfl⟩:=acp.1 h;rw[<-e.res rs k a b];refine⟨g a,?_⟩;have e1:(x a).2.1|||orL x rs=orL x rs:=Cj (λr=>(x r).2.1) b
  have e2:orL x rs|||fW x s=fW x s:=Cj (λrs=>orL x rs) k
  calc (x a).2.1|||fW x s=(x a).2.1|||(orL x rs|||fW x s):=by rw[e2]
   _=((x a).2.1|||orL x rs)|||fW x s:=by rw[abb]
   _=fW x s:=by rw[e1,e2]
 refine zH _ λrs c=>?_;obtain⟨j,d,rfl⟩:=adQ.1 c;rw[<-l j d,xC (ZN d),I4 (e.res _ c),<-abb,acn]
def BQ(a:s.batch):ky x f s=⟨s.ls.map (·.map x),f|||fW x s⟩:=by
 unfold ky fW;rw[<-mL (λrs=>orL x rs),a];have e1:dv x true s.stop=λrs=>rs.map x:=by funext rs;simp[dv]
 have e2:pb x true s.stop=λF rs=>F|||orL x rs:=by funext F rs;simp[pb]
 rw[e1,e2]
def BP(a:s.batch=false):ky x f s=⟨told x s.stop s.ls,dK x s.stop f s.ls⟩:=by
 unfold ky told dK;rw[a];have e1:dv x false s.stop=λrs=>(cut s.stop rs).map x:=by funext rs;simp[dv]
 have e2:pb x false s.stop=λF rs=>aW x F (cut s.stop rs):=by funext F rs;simp[pb]
 rw[e1,e2]
def oQ:∀{l:List Aq},(∀x,x∈l->V x)->ly V l=l
 |[],_=>rfl
 |y::l,h=>by
  unfold ly;rw[ZC (h y ZJ),oQ λx a=>h x (aai _ a)]
def vQ{l:List Aq}{n:Nat}(h:∀j,j<n->∃x,l[j]?=some x/\V x):(ly V l).take n=l.take n:=by
 apply ab5;intro i;rw[aau,aau];split
 .exact pY h ‹_›
 rfl
variable{v:AK}{C Wg:Nat}{cells:Array Aq}
def aft(E:Nat)(Dd:Nat->Prop)(Wg:Nat)(wl w v:AK):AK:=aK (zZ (FV bq (λb=>E<=b)) Dd (λb=>Dd b\/b=Wg) E w wl.heap v) (λ_ _=>0) v
def CG.batch{m:Nat}{rs:Nat->List Rec}(h:CG E Dd v0 wl w)(c:nw (λb=>¬Dd b) E n rs m B w v C Wg cells):CG E (λb=>Dd b\/b=Wg) v0 (aft E Dd Wg wl w v) v:=by
 have o:=h.lt;have p:=c.wg;obtain⟨t,d,_⟩:=c.fl;have e:(aft E Dd Wg wl w v).heap[E]?=(v.heap[E]?).map (fS (FV bq (λb=>E<=b)) (Dd E\/E=Wg)):=oU sM;refine⟨trB h.tr c.size (λb k q r=>c.old b q k r) (λb a=>?_) (λb a=>?_) _,?_,⟨_,t,d,rfl⟩,λb g=>(c.old b (λa=>by have:=h.dd b a;omega) oM oM).trans (h.old b g),λb a=>?_,c.tape.trans h.tape,c.os.trans h.os,c.out.trans h.out⟩
 .rcases a with a|rfl
  .have k:=(h.tr.dead b a).1;have:=h.tr.size;have:=c.size;omega
  exact p.2.1
 .rcases a with a|rfl
  .exact λl=>l.2.1 a
  exact λl=>oM
 .rw[e,d];exact⟨_,_,_,rfl⟩
 rcases a with a|rfl
 .exact h.dd b a
 omega
def M22.batch(h:CG E Dd v0 wl w)(m:M22 E A ss tds f u4 Ds s S Tb B₀ u0 u8 A' cap' wl)(o:∀b,Dd b->b<S)(p:∀D,D∈Ds->¬Dd D){rs:Nat->List Rec}(g:nw (λb=>¬Dd b) E n rs f B w v C Wg cells)(q:f|||B<256):
 M22 E A ss tds (f|||B) u4 Ds s S Tb B₀ u0 u8 A' cap' (aft E Dd Wg wl w v):=by
 have r:=h.lt;have I:=g.wg;have u:=h.tr.size;obtain⟨t,k,_⟩:=g.fl;have d:(aft E Dd Wg wl w v).heap[E]?=some (.cells #[iH (f|||B:Nat)] t (0,0)):=by
  have:(aft E Dd Wg wl w v).heap[E]?=(v.heap[E]?).map (fS (FV bq (λb=>E<=b)) (Dd E\/E=Wg)):=oU sM;rw[this,k];simp only[aaJ,fS];rw[Zr (λa=>a.elim (λa=>by have:=h.dd _ a;omega) (λe=>oM)),oQ (λy l=>by
   simp only[aag]at l;subst l;exact .sc rfl)]
 refine m.moved (Dd:=Dd) (λb a=>⟨h.dd b a,o b a⟩) (λb c t z a F=>(h.tr.dead b a).2 c t z F) p (λb J G H=>zY u.symm g.size oM G H) ?_ ?_ ?_ q
 .have:((aft E Dd Wg wl w v):Nat)=v:=by simp[aft,aK,zZ]
  have:=g.size;omega
 .unfold World.cell?;rw[d];rfl
 unfold World.frozen?;rw[d];rfl
def LJ(h:CG E Dd v0 wl w)(K:Say x s)(d:nw (λb=>¬Dd b) E s.ls (recs s) f B w v C Wg cells):cY (aft E Dd Wg wl w v) (E+1) (qL C 0 s.ls s.ls) (s.ls.map (·.map x)):=by
 have Y:=h.lt;have hz:=h.tr.size;have M:=K.l;have D:∀b,(w:Nat)<=b->b≠Wg->∀c t z,v.heap[b]?=some (.cells c t z)->(aft E Dd Wg wl w v).heap[b]?=some (.cells (ly (FV bq (λb=>E<=b)) c.toList).toArray t z):=by
  intro b Q Z c t z hc;have:(aft E Dd Wg wl w v).heap[b]?=(v.heap[b]?).map (fS (FV bq (λb=>E<=b)) (Dd b\/b=Wg)):=oU oM;rw[this,hc];simp only[aaJ,fS];rw[Zr (λN=>N.elim (λN=>by have:=(h.tr.dead b N).1;omega) Z)]
 have O:∀i,i<(s.ls:Nat)->∃u,cells[i]?=some u/\FV bq (λb=>E<=b) u:=λi L=>by
  obtain⟨u,F,k,_⟩:=d.res i L;obtain⟨A1,c1,rfl⟩:=ba k;exact⟨_,F,.sc rfl⟩
 have hC:(aft E Dd Wg wl w v).heap[C]?=some (.cells cells 53 (0,0)):=by
  rw[D C d.c.1 (abj d.wg.2.2) _ _ _ d.cs.1,oQ λy K=>?_];obtain⟨j,m⟩:=List.mem_iff_getElem?.1 K;have G:=(ZL.1 m).1;rw[adU,d.cs.2]at G;obtain⟨u,F,k⟩:=O j G;rw[aar,F]at m;obtain rfl:=ZO m;exact k
 have H:=d.cs.2;have hcC:=d.c;refine⟨cells.toList,⟨by simp[H],.inr ⟨C,s.ls,cells,sM,oM,hC,sM,?_,oM,by rw[List.take_of_length_le (by simp[H])]⟩⟩,λi xs L=>?_⟩
 .have:(1048576:Nat)<=maxLen:=dC;omega
 rw[aaf]at L;obtain⟨rs,o,rfl⟩:=ZX.1 L;have P:=(ZL.1 o).1;obtain⟨u,F,k,R⟩:=d.res i P;rw[xC o]at k;have I:=K.res rs (aae o);have e1:flat (rs.map iY)=(rs.map x).flatMap rsC:=by
  unfold flat;rw[aes,aes];have:∀l:List LR,(∀r,r∈l->x r=(iY r).res)->(l.flatMap λr=>xz (iY r).res)=l.flatMap λr=>rsC (x r):=by
   intro l;induction l with
   |nil=>intro;rfl
   |cons a l ih=>intro M;rw[ab4,ab4,ih λr hr=>M r (aai _ hr),M a ZJ];rfl
  exact this rs I
 rw[e1,aao]at k;refine⟨u,by rw[aar];exact F,⟨?_,?_⟩,λg hg e=>?_⟩
 .rw[aao];exact k.1
 .rw[aao];rcases k.2 with hn|⟨g,T,p,rfl,q1,q2,q3,q4,q5,U⟩
  .exact .inl hn
  obtain⟨k4,W,k6,k7⟩:=R g rfl;refine .inr ⟨g,T,_,rfl,oM,D g oM k6 _ _ _ q2,?_⟩;have X:(rs:Nat)*3<=p.toList:=by
   have Q:p.toList=T*3:=q5;rw[Q];exact Z9 3 q3
  have q:∀(j:Nat)(m:j<(rs:Nat)*3),p.toList[j]'oM∈(rs.map x).flatMap rsC:=λj m=>by
   rw[<-U];exact aae (i:=j) (by rw[aau,ZC m];exact ZN _)
  rw[<-U];refine vQ λj m=>⟨_,ZN oM,?_⟩;replace q:=q j m;obtain⟨y,_,J⟩:=acW.1 q;simp only[rsC,ZM,ZG,aaV]at J;rcases J with h|h|h<;>rw[h]<;>exact .sc rfl
 obtain⟨_,W,_⟩:=R g hg;simp only[Value.ownBlock,Zt]at e;exact W e.symm
end
end T
namespace T
open Go.Conc Go.ConcN
def Pn:dW[0]?=some {dst:=some 33,op:=.move (.tmp 8),type:=34,pos:= "plain.go:37",after:=#[],guard:=none}:=by kernel_rfl
def I5:dW[1]?=some {dst:=some 34,op:=.call {callee:=.value (.func 39),args:=#[.tmp 3,.tmp 33],argTypes:=#[78,34]},type:=43,pos:= "plain.go:37",after:=#[{on:=0,ground:=.data}],guard:=none}:=by kernel_rfl
def Cn:List.range dW.size=[0,1,2,3]:=by
 have:dW.size=4:=vS;rw[this];rfl
def S6:aG prog bq glC true IH:=by kernel_rfl
def Ow:aG prog bq glC true zt:=by kernel_rfl
def Pt:aG prog bq glC true tj:=by kernel_rfl
def DY:aG prog bq glC true gn:=by kernel_rfl
def Mt:([2,3].all λi=>match dW[i]? with|some o=>j1 prog bq glC true o.op|none=>true):=by kernel_rfl
def S9:aG prog bq glC true DN:=by kernel_rfl
def S8:aG prog bq glC true DM:=by kernel_rfl
def S7:aG prog bq glC true DL:=by kernel_rfl
def QV(b:Machine->Trace->Prop)(E:Nat)(l:AK)(A:Option Es)(m:List Stp)(n cap i:Nat)(d:List TD)(f:Nat)(k:List Item)(c₁:K0)(cs:List K0):Prop:=
 ∀(g:Loc->Prop)(Dd:Nat->Prop)(h v:AK)(a:Act)(j:Aq)(e:List Nat),nC (mE E Dd) g->CG E Dd l h v->L22 E A m d f j e h->At (bI E n i cap A j) e a->dD (mE E Dd) a->(∀D,D∈e->¬Dd D)->
  Way b g (G ((base 22).at a k) (c₁::cs)) v
section
variable{Goal:Machine->Trace->Prop}{E n i cap:Nat}{A:Option Es}{ss:List Stp}{tds:List TD}{f:Nat}{u4:Aq}{Ds:List Nat}{s:Stp}{v0 wl w:AK}{Dd:Nat->Prop}{Sh:Loc->Prop}{x:LR->Nat×Nat×Bool}{a:Act}{k:List Item}{c₁:K0}{cs:List K0}
def O3(hT:ga v0)(hx:∀r,(x r).2.1<256)(O:Say x s)(hs:ss[i]?=s)(hi:i<n)(htl:(tds:Nat)<=1048576)(z:nC (mE E Dd) Sh)(h:CG E Dd v0 wl w)(hL:L22 E A ss tds f u4 Ds wl)(hA:At (bI E n i cap A u4) Ds a)(hOk:dD (mE E Dd) a)(T:∀D,D∈Ds->¬Dd D)
 (next:QV Goal E v0 A ss n cap i (tds++[ky x f s]) (ky x f s).fl k c₁ cs):Way Goal Sh (G ((base 22).at a (.code nM::k)) (c₁::cs)) w:=by
 rw[KS];refine .ctl rfl (λv=>ZH) ?_;refine h.piece z S9 hOk (R:=λa' w'=>∃S A' u,At ((6,pT S 0)::bI E n i cap A u4) Ds a'/\N5 E A ss tds f u4 Ds s S A' u w'/\(wl:Nat)<=S) (λW e=>?_) ?_
 .exact abx (λe' a' w' hq=>⟨hq.1,(let⟨S,A',c,q1,U,q3⟩:=hq.2.1;⟨S,A',c,q1,U,by rw[<-e];exact q3⟩),hq.2.2⟩) (SA hA (hL.same e) hs hi)
 rintro aa wla va⟨S,A',u,hAa,hNa,hS1⟩ hOka ha;refine .ctl rfl (λv=>ZH) ?_;refine ha.piece z S8 hOka (R:=λa' w'=>∃V,At ((7,pT V 0)::(6,pT S 0)::bI E n i cap A u4) Ds a'/\N6 E A ss tds f u4 Ds s S V A' u w') (λW e=>Sz hAa (hNa.same e)) ?_;rintro ab wlb vb⟨V,hAb,hNb⟩ hOkb hb';refine .ctl rfl (λv=>ZH) ?_;refine hb'.piece z S7 hOkb (R:=λa' w'=>∃B₀ J,At (fM E n i cap A u4 S V J) Ds a'/\M22 E A ss tds f u4 Ds s S V B₀ (.slice none 0 0) J A' u w') (λW e=>Sx hAb (hNb.same e) O.l O.ll) ?_;refine λa1' wl1' v1' hR1' hOk1' h1'=>.ctl rfl (λv=>ZH) ?_;revert a1' wl1' v1';rintro a1 wl1 v1⟨B₀,J,hA1,hM1⟩ hOk1 h1;have hS:∀b,Dd b->b<S:=λb P=>ZB (h.tr.dead b P).1 hS1;rw[K8];refine .ctl rfl (λv=>ZH) ?_;refine h1.piece z S6 hOk1 (R:=λa' w'=>At ((32,.bool s.batch)::fM E n i cap A u4 S V J) Ds a'/\M22 E A ss tds f u4 Ds s S V B₀ (.slice none 0 0) J A' u w') (λW e=>?_) ?_
 .have hM:=hM1.same e;exact abx (λe a' w' hq=>by
   obtain⟨q1,U,rfl⟩:=hq;exact⟨q1,⟨U,hM⟩,λ_ _=>rfl⟩) (Sv hA1 hM.S0)
 rintro a2 wl2 v2⟨hA2,y⟩ Y K;refine .ctl rfl (λv=>acN (hA2.ev ZJ)) ?_;have L:At (fM E n i cap A u4 S V J) Ds a2:=hA2.sub λp T=>aai _ T;cases hb:s.batch with
 |false=>
  rw[Zr sM];refine .ctl rfl (λv=>abn) ?_;refine K.piece z DY Y (R:=λa' w'=>∃d F,At (bI E n i cap A d) (F++Ds) a'/\L22 E A ss (tds++[⟨told x s.stop s.ls,dK x s.stop f s.ls⟩]) (dK x s.stop f s.ls) d (F++Ds) w'/\∀D,D∈F->(wl2:Nat)<=D) (λW e=>?_) ?_
  .exact abx (λe' a' w' hq=>by
    obtain⟨q1,d,F,U,q3,q4,q5⟩:=hq;exact⟨q1,⟨d,F,U,q3,λD Q=>by rw[<-e];exact q5 D Q⟩,q4⟩) (uN L (y.same e) hb O.l O.ll x hx O.calls htl)
  rintro a3 wl3 v3⟨d,F,M,hL3,hD3⟩ N h3;rw[BP hb]at next
  refine next Sh Dd wl3 v3 a3 d (F++Ds) z h3 hL3 M N λD Q P=>?_
  rcases aci.1 Q with Q|Q
  .have q1:=hD3 D Q;have U:=(K.tr.dead D P).1;omega
  exact T D Q P
 |true=>
  rw[ZC rfl,IF];refine .ctl rfl (λv=>acU) ?_;rw[Cn];have e8:a2.eval (.tmp 8)=J:=L.ev (by simp[fM]);refine ae7 (x:=J) Pn rfl dC (λv=>by simp[Lk,e8]) (λv=>by simp[Lk]) ?_;have M:=At.put L (k:=33) dC J (by simp[fM]);have hV8:FV bq (λb=>E<=b) J:=by
   obtain⟨A8,c8,rfl⟩:=(let⟨_,q,_⟩:=y.ls;ba q);exact .sc rfl
  have N:=Y.put (k:=some 33) (x:=J) hV8;obtain⟨H,I,bs,cp,rfl,hAsk⟩:=NM K hT y hS O;have e3:(a2.put (some 33) (.slice H s.ls I)).eval (.tmp 3)=pT E 0:=M.ev (by simp[fM]);have e33:(a2.put (some 33) (.slice H s.ls I)).eval (.tmp 33)=.slice H s.ls I:=M.ev sM;refine Way.enter I5 rfl dC rfl func39 rfl rfl (vals:=#[pT E 0,.slice H s.ls I]) (by simp[e3,e33]) ?_;obtain⟨B1,B2,B3⟩:=O.flags hx;have hfl:bG E v2 f:=by
   obtain⟨c,t,q1,U⟩:=K.eb;have q3:=(K.tr.cell y.l.e).1;obtain⟨c',t',z',q4,q5,q6⟩:=jk q3;rw[q1]at q4;simp only[Zt,ac5]at q4;obtain⟨rfl,rfl,rfl⟩:=q4;have:c=#[iH (f:Nat)]:=by
    apply acD;intro j;cases j with
    |zero=>exact q6
    |succ j=>rw[abh oM,abh sM]
   subst this;exact⟨t,q1,by have:=y.l.fl;omega⟩
  refine Way.batch (Dd:=Dd) z (λb P=>by have:=(K.tr.dead b P).1;have:=K.tr.size;omega) hAsk hfl B1 B2 ?_;intro v C Wg cells Sh' Z X;have h4:=K.batch X;have hM4:=M22.batch K y hS T X (tu y.l.fl B3);have hR4:=LJ K O X;rw[acG,I5];show Way Goal Sh' (G ((base _).at ((a2.put (some 33) (.slice H s.ls I)).put (some 34) (qL C 0 s.ls s.ls)) (.inRegion dW [2,3]::.code gn::k)) (c₁::cs)) v;have hA4:=At.put M (k:=34) dC (qL C 0 s.ls s.ls) (by simp[fM]);have hA4':At ((34,qL C 0 s.ls s.ls)::fM E n i cap A u4 S V (.slice H s.ls I)) Ds _:=hA4.sub λp T=>by
   rcases ZM.1 T with rfl|T
   .exact ZJ
   exact aai _ (aai _ T)
  have hOk4:dD (mE E λb=>Dd b\/b=Wg) ((a2.put (some 33) (.slice H s.ls I)).put (some 34) (qL C 0 s.ls s.ls)):=N.put (k:=some 34) (FV.sc rfl);refine h4.items (front:=[.inRegion dW [2,3],.code gn]) (front':=[]) Z (by
   intro it hit;rcases ZM.1 hit with rfl|hit
   .intro j hj o ho;have:=acb.1 Mt j hj;rw[ho]at this;exact this
   obtain rfl:=aag.1 hit;exact DY) sM hOk4 (R:=λa' w'=>∃d,At (bI E n i cap A d) Ds a'/\L22 E A ss (tds++[⟨s.ls.map (·.map x),f|||fW x s⟩]) (f|||fW x s) d Ds w') (λW e=>?_) ?_
  ·(have hR5:cY W (E+1) (qL C 0 s.ls s.ls) (s.ls.map (·.map x)):=hR4.keep λg _=>by rw[e]);obtain⟨m,q1,a',w',rfl,d,U,q3,q4⟩:=Vj hA4' (hM4.same e) hb O.l O.ll hR5 htl (base 22) [END] [c0];exact⟨a',w',q1,⟨d,U,q3⟩,q4⟩
  rintro a5 wl5 v5⟨d,hA5,hL5⟩ hOk5 h5;rw[BQ hb]at next
  refine next Sh' (λb=>Dd b\/b=Wg) wl5 v5 a5 d Ds Z h5 hL5 hA5 hOk5 λD Q P=>?_
  rcases P with P|rfl
  .exact T D Q P
  have q1:=(Zq.1 (y.l.pile.2 _ Q).2).1;have:=X.wg.1;have:=K.tr.size;omega
end
end T
section
open Go.RowKit Go.Shelf
attribute[local go_sem] pg tP
def MD:Code:=match qQ with|.seq _ (.seq _ (.seq c _))=>c|_=>.skip
def z8{x1 x2 x3 x4 x5 x9 aa ac ad ae af ag ai ak al am an ap aq ar cH au av aw ax ay az aA aB aE aF aG aH aJ aK aL aM aN aO aP aQ aR aS aT aU aV aW aX aY aZ a0 a1 a2 a3 a4 a5 a6 a7 a8 a9 ba bb bc bd be bf bg bh bi bj bk bm bn bo bp bq br bs bt bu bv bw bx bz bA bB bC bD bE bF bG bH bI bJ bK bL bM bN bO bP bQ bS bT bU bV bW bY bZ b0 b1 b2 b3 b4 b5 b6 b7 b8 b9 ca cc cd ce cf cg ch ci cj ck cl cm cn co cp cq cr cs ct cu cv cw cx cy cz cA cC cD cE cG:Aq}{ds:List Deferred}{Q:Exit->Act->AK->Prop}{w:AK}(d:Nat)(A A6:Option Es)(cap N c6:Nat)(ops:List Sop)(P:(ops:Nat)<=1048576)(x:LR->Nat×Nat×Bool)(hx:∀r,(x r).2.1<256)(hN:N=(aI ops))
 (z:∀s,s∈ops->(s.ls:Nat)<=1048576/\∀rs,rs∈s.ls->(rs:Nat)<=1048576)
 (g:∀(i:Nat)(s:Sop),ops[i]?=some s->∃R S A' f,A=aD R S/\∀W,aj w d w W->uv W R (S+i*8) A' f s/\lA d W A' 5 (s.ls.map (·.map lrC)))
 (H:∀(k:Nat)(td:TD),(gf x 0 (aI ops))[k]?=td->∃tb B A3 c3,A6=aD tb B/\∀W,aj w d w W->uo d W tb (B+k*3) A3 c3 td)
 (I:∀s,s∈ops->∀rs,rs∈s.ls->∀r,r∈rs->∀W,Bf prog 35 #[eV r.o r.m r.a r.b r.c] W (ah (x r).1 (x r).2.1 (x r).2.2 W))
 (he:w (aD d 0)=some (.int .i64 (0:Nat)))(hez:w.frozen? (aD d 0)=false)
 (hQ:∀⦃y2 y9 y10 y11 y12 y13 y14 y53 y54 y55 y56 y57 y58 y59 y60 y61 y62 y63 y64 y65 y66 y67 y68 y69 y70 y71 y72 y73 y74 y75 y76 y77 y78 y79 y80 y81 y82 y83 y84 y85 y86 y87 y88 y89 y90 y91 y92 y93 y94 y95 y96 y97 y98 y99 T U V X Y Z cM cR cS cW c1 c2 c4 c5 c7 c8 db dd di dl dy d9 ea ec ed eg eh ej ek el em ep eq er et eu ev ew ex ez eB eC eE eM eN eS eW e0:Aq⦄(W:AK),aj w d w W->Q .normal ⟨(.slice A ops cap::x1::y2::x3::x4::x5::.slice A6 N c6::.pointer (aD d 0)::.int .i64 N::y9::y10::y11::y12::y13::y14::ag::ai::ak::al::am::an::ap::aq::ar::cH::au::av::aw::ax::ay::az::aA::aB::aE::aF::aG::aH::aJ::aK::aL::aM::aN::aO::aP::aQ::aR::aS::aT::aU::aV::aW::aX::aY::y53::y54::y55::y56::y57::y58::y59::y60::y61::y62::y63::y64::y65::y66::y67::y68::y69::y70::y71::y72::y73::y74::y75::y76::y77::y78::y79::y80::y81::y82::y83::y84::y85::y86::y87::y88::y89::y90::y91::y92::y93::y94::y95::y96::y97::y98::y99::T::U::V::X::Y::Z::cM::cR::cS::cW::c1::c2::c4::c5::c7::c8::db::dd::di::dl::dy::d9::ea::ec::ed::eg::eh::ej::ek::el::em::ep::eq::er::et::eu::ev::ew::ex::ez::eB::eC::eE::eM::eN::eS::eW::e0::cC::cD::cE::cG::[]).toArray,ds⟩ W):
 MD.wp prog Q ⟨(.slice A ops cap::x1::x2::x3::x4::x5::.slice A6 N c6::.pointer (aD d 0)::.int .i64 (0:Nat)::x9::aa::ac::ad::ae::af::ag::ai::ak::al::am::an::ap::aq::ar::cH::au::av::aw::ax::ay::az::aA::aB::aE::aF::aG::aH::aJ::aK::aL::aM::aN::aO::aP::aQ::aR::aS::aT::aU::aV::aW::aX::aY::aZ::a0::a1::a2::a3::a4::a5::a6::a7::a8::a9::ba::bb::bc::bd::be::bf::bg::bh::bi::bj::bk::bm::bn::bo::bp::bq::br::bs::bt::bu::bv::bw::bx::bz::bA::bB::bC::bD::bE::bF::bG::bH::bI::bJ::bK::bL::bM::bN::bO::bP::bQ::bS::bT::bU::bV::bW::bY::bZ::b0::b1::b2::b3::b4::b5::b6::b7::b8::b9::ca::cc::cd::ce::cf::cg::ch::ci::cj::ck::cl::cm::cn::co::cp::cq::cr::cs::ct::cu::cv::cw::cx::cy::cz::cA::cC::cD::cE::cG::[]).toArray,ds⟩ w:=by
 replace hQ:=Zp hQ;replace g:=Zp g;replace H:=Zp H;replace I:=Zp I;replace z:=Zp z;conv=>arg 2;whnf
 go_wp2
 go_loopw[8,9] (λe i wr=>∃k:Nat,k<=ops/\i=.int .i64 k/\e=.int .i64 (aI (ops.take k))/\aj w d w wr/\wr (aD d 0)=some (.int .i64 (dr x 0 (aI (ops.take k)):Nat))/\wr.frozen? (aD d 0)=false) (λ_ i _=>ops-(intOf i).toNat)
 case atStart=>exact⟨0,Z7 _,rfl,rfl,.refl _,he,hez⟩
 obtain⟨k,hk,rfl,rfl,O,h,j⟩:=hrel;have h60:Few k:=by unfold Few;omega
 by_cases l:k<ops
 .obtain⟨s,C⟩:∃s,ops[k]?=some s:=⟨_,ZN l⟩;have n:=aae C;obtain⟨R,S,A',f,rfl,J⟩:=g.out k s C;obtain⟨D,q⟩:=J wr O;have t:=oF C;have hkp:(k:Int)<ops:=oM;have hF:=re hx (aI (ops.take k)) 0 oM;replace t:=Zp t;have e3:=O.size;obtain⟨e,u⟩:∃e,((aI (ops.take k)):Nat)=e:=⟨_,rfl⟩;rw[u];refine abZ ?_;intro K1 g1;replace g1:=Zp g1
  go_wp2
  refine g1.out _ _ ?_;refine abZ ?_;intro K2 g2;replace g2:=Zp g2;refine wp_block ?_;by_cases E:s.kd=3\/s.kd=4
  ·(have v:stp s=some ⟨s.kd==4,s.a,s.ls⟩:=by unfold stp;rw[ZC E]);have h1:=BT C v;(have e4:e<N:=by rw[hN,<-u];exact(ZL.1 h1).1);have h2:=yN (x:=x) _ 0 _ _ h1;rw[yQ hk,u]at h2;obtain⟨tb,B,A3,c3,rfl,e5⟩:=H.out _ _ h2;have hNl:N<=1048576:=by
    rw[hN];exact Zz (acs _ _) P
   refine BV d R S tb B ops cap N c6 e k A' A3 f c3 s E D l e4 hNl (ky x (dr x 0 (aI (ops.take k))) ⟨s.kd==4,s.a,s.ls⟩) x hx _ hF (z.out s n).1 (z.out s n).2 q rfl rfl (e5 wr O) (I.out s n) h j ?_;intros;rename_i W K F y;have L:aj w d w W:=O.trans (K.low e3);have e6:dr x 0 (aI (ops.take (k+1)))=(ky x (dr x 0 (aI (ops.take k))) ⟨s.kd==4,s.a,s.ls⟩).fl:=by
    rw[t.out,v];unfold dr;rw[Option.toList_some,ab3];rfl
   (have G:((aI (ops.take (k+1))):Nat)=e+1:=by rw[t.out,v,Option.toList_some,abU,u];rfl);rw[<-e6]at F;refine g2.out _ _ ?_;clear D q K J e5
   go_wp2
   go_roundw
   case rel=>exact⟨k+1,l,by go_num,by rw[G],L,F,y⟩
   simp[intOf];omega
  have v:stp s=none:=by unfold stp;rw[Zr E]
  refine BX R S ops cap k A' f s E D l ?_;intros;rename_i W K;have M:=bX h;simp only at M;have L:aj w d w W:=O.trans ((aj.of K).low e3);have G:aI (ops.take (k+1))=aI (ops.take k):=by rw[t.out,v,Option.toList_none,ac6]
  have F:=(K.cell (p:=aD d 0) M).trans h;have y:=(K.frozen (p:=aD d 0) M).trans j;refine g2.out _ _ ?_;clear D q K J h j
  go_wp2
  go_roundw
  case rel=>exact⟨k+1,l,by go_num,by rw[G,u],L,by rw[G];exact F,y⟩
  simp[intOf];omega
 obtain rfl:k=ops:=oM;rw[aaL]at h;rw[aaL,<-hN]
 go_wp2
 exact hQ.out wr O
end
section
open Go.RowKit Go.Shelf
variable{A:Option Es}{eb size:Nat}{ls:List (List (List Aq))}{v w:AK}
def kY{W:AK}{B:Nat}(h:Np w w v)(a:aj B eb v W)(c:w<=eb)(d:w<=B):Np w w W:=
 ⟨a.os.trans h.os,a.tape.trans h.tape,a.output.trans h.output,Zz h.size a.size,λk b=>(a.block k oM oM).trans (h.block k b)⟩
def pL.below(h:pL eb w A size ls)(d:Np w w v):pL eb v A size ls:=λi b f=>by
 obtain⟨a,A',c,g,j,k,e,l,m⟩:=h i b f;exact⟨a,A',c,g,j,k,(d.cell (p:=aD a.block (a.off+i)) (bX (p:=aD a.block (a.off+i)) e)).trans e,l,m.below d⟩
def lA.below(h:lA eb w A size ls)(d:Np w w v):lA eb v A size ls:=λi b f=>by
 obtain⟨a,A',c,g,j,k,e,l,m⟩:=h i b f;exact⟨a,A',c,g,j,k,(d.cell (p:=aD a.block (a.off+i)) (bX (p:=aD a.block (a.off+i)) e)).trans e,l,m.below d⟩
def uo.below{tb o:Nat}{A':Option Es}{a:Nat}{d:TD}(h:uo eb w tb o A' a d)(b:Np w w v):uo eb v tb o A' a d:=by
 have c:tb<w:=bX (p:=aD tb o) h.c0;exact⟨h.lt,(b.cell (p:=aD tb o) c).trans h.c0,(b.cell (p:=aD tb (o+1)) c).trans h.c1,(b.cell (p:=aD tb (o+2)) c).trans h.c2,h.pl,h.l.below b⟩
end
namespace T
open Go.Conc Go.ConcN
variable{B E n size t:Nat}{GL:Nat->Prop}{ls:List (List LR)}{s u:Aq}{sts:List Stp}{tds:List TD}{v v0 w wl:AK}{xs:List Aq}
def eD{α:Type}{f:α->List Aq}(F:0<size)(o:∀r,(f r)=size){rs:List α}(h:ia w B t size s rs (rs.flatMap f)):
 ∃A c,s=.slice A rs c/\bE w A size (rs.map f)/\(∀p,A=some p->p.block<w)/\∀k cs,(rs.map f)[k]?=some cs->∃g,A=aD g 0/\B<=g/\g<(w:Nat)/\∀c u,cs[c]?=some u->w (aD g (k*size+c))=some u:=by
 obtain⟨A,c,rfl,j⟩:=h.2.1;have main:∀k cs,(rs.map f)[k]?=some cs->∃g,A=aD g 0/\B<=g/\g<(w:Nat)/\∀c u,cs[c]?=some u->w (aD g (k*size+c))=some u:=by
  intro k cs b;rw[aaf]at b;obtain⟨r,q,rfl⟩:=ZX.1 b;have a:k<(rs:Nat):=(ZL.1 q).1;obtain⟨g,cap,x,e,y,d,z⟩:=h.2.2 oM;simp only[abC]at e;refine⟨g,e.1,y,(Zq.1 d).1,λc u i=>?_⟩;have C:c<size:=by have:=(ZL.1 i).1;rw[o]at this;exact this
  have l:=kQ o q c C;rw[<-z,aau]at l;have m:k*size+c<rs*size:=by
   have:(k+1)*size<=rs*size:=Z9 size a;rw[adj]at this;omega
  rw[ZC m]at l;simp only[World.cell?,d];rw[<-aar,l,i];rfl
 refine⟨A,c,rfl,λk cs b=>?_,j,main⟩;obtain⟨g,e,_,d,D⟩:=main k cs b;exact⟨aD g 0,e,rfl,d,λc u i=>by rw[show(aD g 0:Es).off+k*size+c=k*size+c by simp];exact D c u i⟩
def LsW(w:AK)(B:Nat)(u:Aq)(ls:List (List LR)):Prop:=
 ∃a,ia w B 71 1 u ls a/\∀(i:Nat)(rs:List LR),ls[i]?=rs->∃s,a[i]?=some s/\ia w B 59 5 s rs (rs.flatMap gvC)
def LsW.of(h:cH w B u gvC ls):LsW w B u ls:=by
 obtain⟨a,b,c⟩:=h;refine⟨a,jX b,λi rs d=>?_⟩;obtain⟨s,e,f,_⟩:=c i rs d;exact⟨s,e,jX f⟩
def LsW.lists(h:LsW w B u ls):∃A c,u=.slice A ls c/\bh w A 5 (ls.map (·.map gvC)):=by
 obtain⟨b,l,r⟩:=h;have m:(b:Nat)=ls:=by have:=l.1;omega
 have d:ia w B 71 1 u b (b.flatMap λs=>[s]):=by
  rw[m,show(b.flatMap λs=>[s])=b by simp];exact l
 obtain⟨A,c,rfl,_,_,a⟩:=eD (f:=λs:Aq=>[s]) dC (λ_=>rfl) d;refine⟨A,c,by rw[m],λi o p=>?_⟩;rw[aaf]at p;obtain⟨rs,j,rfl⟩:=ZX.1 p;obtain⟨s,x,y⟩:=r i rs j;obtain⟨A',q,rfl,k,_⟩:=eD dC eG y;obtain⟨g,e,_,z,C⟩:=a i [.slice A' rs q] (by rw[aaf,x];rfl);exact⟨aD g 0,A',q,e,rfl,z,by have:=C 0 _ rfl;simpa using this,k⟩
def vH(m:0<size)(h:ia w B t size s n xs)(d:(w:Nat)<=v)(e:∀g c,w.heap[g]?=some (.cells c t (0,0))->g<E->v.heap[g]?=w.heap[g]?)(f:∀p,s.ownBlock=some p->p<E):ia v B t size s n xs:=by
 refine⟨h.1,(let⟨A,cap,q1,q2⟩:=h.2.1;⟨A,cap,q1,λp i=>ZB (q2 p i) d⟩),λj=>?_⟩;obtain⟨g,cap,a,rfl,k,b,l⟩:=h.2.2 j;exact⟨g,cap,a,rfl,k,(e g a b (f g rfl)).trans b,l⟩
def s9(h:ia w B t size s n xs){g:Nat}(b:s.ownBlock=g):g<w:=by
 obtain⟨A,cap,rfl,c⟩:=h.2.1;cases A with
 |none=>cases b
 |some a=>
  simp only[Value.ownBlock,Zt]at b;subst b;exact c a rfl
def SW(w:AK)(u:Aq)(sts:List Stp):Prop:=
 ∃ps:List (Aq×Stp),ps.map (·.2)=sts/\ia w 0 37 3 u ps (ps.flatMap spC)/\∀p,p∈ps->LsW w 0 p.1 p.2.ls
def pV{B':Nat}(h:ia w B t size s n xs)(a:B'<=B):ia w B' t size s n xs:=
 ⟨h.1,h.2.1,λb=>(let⟨g,cap,cur,h1,h2,h3⟩:=h.2.2 b;⟨g,cap,cur,h1,Zz a h2,h3⟩)⟩
def SW.of(h:lz w B u sts):SW w u sts:=by
 obtain⟨ps,a,b,c⟩:=h;refine⟨ps,a,pV (jX b) (Z7 _),λp d=>?_⟩;obtain⟨e,f,g⟩:=LsW.of (c p d);exact⟨e,pV f (Z7 _),λi rs j=>(let⟨s,h5,h6⟩:=g i rs j;⟨s,h5,pV h6 (Z7 _)⟩)⟩
def SW.len(h:SW w u sts):∃A c,u=.slice A sts c:=by
 obtain⟨ps,rfl,a,_⟩:=h;obtain⟨A,c,e,_⟩:=a.2.1;exact⟨A,c,by rw[aao];exact e⟩
def sZ{V:Aq->Prop}(h:ia v0 B t size s n xs)(f:∀x,x∈xs->V x)(T:Nat->Question->Nat):ia (aK (v0.heap.map (fS V False)) T v0) B t size s n xs:=by
 refine⟨h.1,(let⟨A,cap,q1,q2⟩:=h.2.1;⟨A,cap,q1,λp i=>by simpa[aK]using q2 p i⟩),λk=>?_⟩;obtain⟨g,cap,a,l,m,o,d⟩:=h.2.2 k;refine⟨g,cap,(ly V a.toList).toArray,l,m,?_,?_⟩
 .show(v0.heap.map (fS V False))[g]?=_;rw[abv,o];simp[fS]
 show(ly V a.toList).take (n*size)=xs;rw[<-d];refine vQ λj e=>?_;have c:(a.toList.take (n*size))[j]?=xs[j]?:=by rw[d]
 rw[aau,ZC e]at c;have b:j<(xs:Nat):=by rw[h.1];exact e
 rw[ZN b]at c;exact⟨_,c,f _ (aer b)⟩
def SW.low(h:SW v0 u sts)(T:Nat->Question->Nat):SW (aK (v0.heap.map (fS (FV bq GL) False)) T v0) u sts:=by
 obtain⟨ps,o,q,l⟩:=h;refine⟨ps,o,sZ q (λx a=>?_) T,λp f=>?_⟩
 .obtain⟨p,f,a⟩:=acW.1 a;obtain⟨g,b,_⟩:=l p f;obtain⟨A,c,e,_⟩:=b.2.1;simp only[spC,ZM,ZG,aaV]at a;rcases a with rfl|rfl|rfl
  .exact .sc rfl
  .exact .sc rfl
  rw[e];exact .sc rfl
 obtain⟨g,b,m⟩:=l p f;have y:g=p.2.ls.length:=by have:=b.1;omega
 refine⟨g,sZ b (λx a=>?_) T,λi rs j=>?_⟩
 .obtain⟨i,j,rfl⟩:=adQ.1 a;obtain⟨s,d,k⟩:=m i _ (ZN oM);rw[ZN j]at d;rw[ZO d];obtain⟨A,c,e,_⟩:=k.2.1;rw[e];exact .sc rfl
 obtain⟨s,d,k⟩:=m i rs j;refine⟨s,d,sZ k (λx a=>?_) T⟩;obtain⟨r,_,a⟩:=acW.1 a;simp only[gvC,ZM,ZG,aaV]at a;rcases a with rfl|rfl|rfl|rfl|rfl<;>exact .sc rfl
def SW.lowSt{A:Option Es}{c:Nat}(h:SW w u sts)(x:u=.slice A n c)(L:w=E):uw E w A sts:=λi s j=>by
 obtain⟨ps,rfl,y,z⟩:=h;rw[aaf]at j;obtain⟨p,k,rfl⟩:=ZX.1 j;obtain⟨M,N,e,_,_,a⟩:=eD dC (λp:Aq×Stp=>(rfl:((spC p):Nat)=3)) y;rw[x]at e;simp only[abC]at e;obtain⟨rfl,_,rfl⟩:=e;have d:=z p (aae k);obtain⟨A',C,l,_⟩:=d.lists;obtain⟨g,rfl,_,D,f⟩:=a i (spC p) (by rw[aaf,k];rfl);refine⟨aD g 0,A',C,rfl,rfl,by show g<E;omega,?_,?_,?_,λW m o=>?_⟩
 .have:=f 0 _ rfl;simpa using this
 .have:=f 1 _ rfl;simpa using this
 .have:=f 2 _ rfl;rw[l]at this;simpa using this
 have F:LsW W 0 p.1 p.2.ls:=by
  obtain⟨G,q,H⟩:=d;refine⟨G,vH (E:=E) dC q o (λg c _ b=>m g b) (λg b=>by have:=s9 q b;omega),λi rs I=>?_⟩;obtain⟨s,J,r⟩:=H i rs I;exact⟨s,J,vH (E:=E) dC r o (λg c _ b=>m g b) (λg b=>by have:=s9 r b;omega)⟩
 obtain⟨O,P,e2,K⟩:=F.lists;rw[l]at e2;simp only[abC]at e2;rw[e2.1];exact K
def vOk(x:Aq):Bool:=match x with|.func (.func f) a b=>bq f&&a.size==0&&b.size==0|x=>xo x
def Qb{x:Aq}(h:vOk x):FV bq GL x:=by
 unfold vOk at h;split at h
 .rename_i f a b;simp only[aab,abH]at h;obtain⟨⟨c,d⟩,e⟩:=h;rw[adF d,adF e];exact .fn c sM sM
 exact .sc h
def Lv:yO.toList.all vOk:=by kernel_rfl
def ga.lone(h:ga v0)(T:Nat->Question->Nat):ga (aK (v0.heap.map (fS (FV bq GL) False)) T v0):=by
 obtain⟨fz,h⟩:=h;refine⟨fz,?_⟩;show(v0.heap.map _)[0]?=_;rw[abv,h];simp only[aaJ,fS,acd];rw[oQ λx a=>Qb (acb.1 Lv x a)]
def Dq(w:AK)(u:Aq)(tds:List TD):Prop:=
 ∃ps:List (Aq×TD),ps.map (·.2)=tds/\ia w 0 45 3 u ps (ps.flatMap tdC)/\∀p,p∈ps->RsW w 0 p.1 p.2.res
def xq{m:Md}(h:Tr m wl v)(l:0<size)(b:ia wl B t size s n xs)(T:Nat->Question->Nat):ia (aK (fu m.Dd v) T v) 0 t size s n xs:=by
 refine⟨b.1,(let⟨A,cap,q1,q2⟩:=b.2.1;⟨A,cap,q1,λp o=>by have:=q2 p o;have:=h.size;simp[aK,fu];omega⟩),λd=>?_⟩;obtain⟨g,cap,a,q,y,e,f⟩:=b.2.2 d;obtain⟨c,r,x,z⟩:=h.cells e;have j:n*size<=a.size:=by
  have:=b.1;rw[<-f,aaY,adU]at this;omega
 have k:0<n*size:=abr d l;refine⟨g,cap,c,q,Z7 _,tA r (h.alive e (Z5 (show 0<a.size by omega))),?_⟩;rw[<-f];apply ab5;intro i;rw[aau,aau];split
 .rw[aar,aar,Z5 (show i<a.size by omega)];exact x _ _ (Z5 _)
 rfl
def Dq.of{m:Md}(h:Tr m wl v)(a:kq wl B u tds)(T:Nat->Question->Nat):Dq (aK (fu m.Dd v) T v) u tds:=by
 obtain⟨ps,b,c,d⟩:=a;refine⟨ps,b,xq h dC (jX c) T,λp e=>?_⟩;obtain⟨f,g,j⟩:=d p e;refine⟨f,xq h dC g T,λi xs k=>?_⟩;obtain⟨s,l,o⟩:=j i xs k;exact⟨s,l,xq h dC o T⟩
def Dq.td(h:Dq w u tds):∃A c,u=.slice A tds c/\∀(k:Nat)(m:TD),tds[k]?=some m->∃tb b o q,A=aD tb b/\uo w w tb (b+k*3) o q m:=by
 obtain⟨ps,rfl,Q,R⟩:=h;obtain⟨A,c,e,_,_,a⟩:=eD dC (λp:Aq×TD=>(rfl:((tdC p):Nat)=3)) Q;refine⟨A,c,by rw[aao];exact e,λk m I=>?_⟩;rw[aaf]at I;obtain⟨p,J,rfl⟩:=ZX.1 I;obtain⟨g,rfl,_,r,y⟩:=a k (tdC p) (by rw[aaf,J];rfl);obtain⟨d,K,S⟩:=R p (aae J);have L:d=p.2.res.length:=by have:=K.1;omega
 have z:ia w 0 53 1 p.1 d (d.flatMap λs=>[s]):=by
  rw[L,show(d.flatMap λs=>[s])=d by simp];exact K
 obtain⟨o,q,T,_,C,D⟩:=eD (f:=λs:Aq=>[s]) dC (λ_=>rfl) z;refine⟨g,0,o,q,rfl,⟨r,?_,?_,?_,C,λi M N=>?_⟩⟩
 .have:=y 0 _ rfl;rw[T,L]at this;simpa using this
 .have:=y 1 _ rfl;simpa using this
 .have:=y 2 _ rfl;simpa using this
 rw[aaf]at N;obtain⟨xs,F,rfl⟩:=ZX.1 N;obtain⟨s,U,V⟩:=S i xs F;obtain⟨O,P,rfl,G,j,_⟩:=eD dC (λx:Nat×Nat×Bool=>(rfl:((rsC x):Nat)=3)) V;obtain⟨g',rfl,_,l,H⟩:=D i [.slice O xs P] (by rw[aaf,U];rfl);exact⟨aD g' 0,O,P,rfl,rfl,l,by have:=H 0 _ rfl;simpa using this,j,G⟩
end T
namespace T
open Go.Conc Go.ConcN Go.RowKit
variable{s:Stp}{x:LR->Nat×Nat×Bool}
def DX:Array Oper:=match IW with|.region _ o _=>o|_=>#[]
def DW:Array Oper:=match IS with|.region _ o _=>o|_=>#[]
def DU:Array Oper:=match IP with|.region _ o _=>o|_=>#[]
def DT:Array Oper:=match IL with|.region _ o _=>o|_=>#[]
def IV:IW=.region 0 DX false:=by kernel_rfl
def IQ:IS=.region 1 DW false:=by kernel_rfl
def IN:IP=.region 2 DU false:=by kernel_rfl
def IK:IL=.region 3 DT false:=by kernel_rfl
def Mr:DX=#[{dst:=some 2,op:=.assign (.const (.slice none 0 0)),type:=38,pos:= "plain.go:30",after:=#[],guard:=none}]:=by kernel_rfl
def Mq:DW=#[{dst:=some 3,op:=.alloc 78,type:=0,pos:= "plain.go:31",after:=#[],guard:=none}]:=by kernel_rfl
def Mp:DU=#[{dst:=some 4,op:=.assign (.const (.slice none 0 0)),type:=38,pos:= "plain.go:32",after:=#[],guard:=none}]:=by kernel_rfl
def Mo:DT=#[{dst:=some 21,op:=.move (.tmp 0),type:=33,pos:= "plain.go:33",after:=#[],guard:=none},{dst:=some 22,op:=.call {callee:=.builtin .len,args:=#[.tmp 21],argTypes:=#[33]},type:=3,pos:= "plain.go:33",after:=#[{on:=0,ground:=.data}],guard:=none},{dst:=some 23,op:=.move (.const (iI 0)),type:=3,pos:= "plain.go:33",after:=#[],guard:=none}]:=by kernel_rfl
def Hb:mj=.seq IW (.seq IS (.seq IP (.seq (.seq IL (.block 0 (.loop xO))) pj))):=by kernel_rfl
def D9:xO=.seq zt (.seq (.cond (.tmp 24) .skip (.exit 0)) (.seq (.block 1 nM) tj)):=by kernel_rfl
def Jb:aG prog bq glC true pj:=by kernel_rfl
section
variable{Goal:Machine->Trace->Prop}{Sh:Loc->Prop}{w:AK}{b:K0}{a:Act}{k:List Item}{cs:List K0}{ops:Array Oper}{i:Nat}{rest:List Nat}{o:Oper}
def Way.new{obj:Obj}(d:ops[i]?=o)(f:Region.wanted o (yielded ops a.tmps))(g:b.kind≠.early)(j:∀v:AK,(Lk a.eval o).run prog v=.ok (.value (pT v 0)) (v.alloc obj))(l:∀v,(Lk a.eval o).events prog v #[]=#[])
 (h:Way Goal Sh (G (b.at (a.put o.dst (pT w 0)) (.inRegion ops rest::k)) cs) (w.alloc obj)):Way Goal Sh (G (b.at a (.inRegion ops (i::rest)::k)) cs) w:=
 .of_gone (M:=λ_=>False) (.one rfl λv m=>⟨_,v.alloc obj,#[],(by rw[stepG_value d f g (j v),aaw (l v)]),⟨sM,sM⟩,.stop λu n=>by
  have e:=Eqv.of_rel m;have c:=Eqv.of_rel n;rw[e.heap];refine h.rely ⟨c.heap.trans ?_,c.tape.trans e.tape,c.os.trans e.os,c.out.trans e.out⟩;show v.heap.push obj=w.heap.push obj;rw[e.heap]⟩)
def Way.region{id:Nat}(h:Way Goal Sh (G (b.at a (.inRegion ops (List.range ops.size)::k)) cs) w):Way Goal Sh (G (b.at a (.code (.region id ops false)::k)) cs) w:=.ctl rfl (λ_=>acU) h
def Way.region_end(h:Way Goal Sh (G (b.at a k) cs) w):Way Goal Sh (G (b.at a (.inRegion ops []::k)) cs) w:=.ctl rfl (λ_=>Zw) h
def Way.seq{x y:Code}(h:Way Goal Sh (G (b.at a (.code x::.code y::k)) cs) w):Way Goal Sh (G (b.at a (.code (.seq x y)::k)) cs) w:=.ctl rfl (λ_=>ZH) h
end
def vu:∀(l:List Stp)(f:Nat),gf x f (l++[s])=gf x f l++[ky x (dr x f l) s]
 |[],f=>rfl
 |t::l,f=>by
  show ky x f t::gf x (ky x f t).fl (l++[s])=_;rw[vu l];rfl
def Az(l:List Stp)(f:Nat):dr x f (l++[s])=(ky x (dr x f l) s).fl:=by
 unfold dr;rw[ab3];rfl
def pQ:∀(l:List Stp)(f:Nat),((gf x f l):Nat)=l
 |[],_=>rfl
 |t::l,f=>by
  show((ky x f t::gf x (ky x f t).fl l):Nat)=_;rw[Z6,pQ l,Z6]
section
variable{Goal:Machine->Trace->Prop}{E n cap:Nat}{A:Option Es}{ss:List Stp}{v0:AK}{x:LR->Nat×Nat×Bool}{c₁:K0}{cs:List K0}
def ME(hn:n=ss)(hn2:n<=1048576)(hT:ga v0)(hx:∀r,(x r).2.1<256)(hy:∀s,s∈ss->Say x s)
 (K:∀(l:Loc->Prop)(Dd:Nat->Prop)(t v:AK)(a:Act)(f:Aq)(b:List Nat),nC (mE E Dd) l->CG E Dd v0 t v->L22 E A ss (gf x 0 ss) (dr x 0 ss) f b t->At (bI E n n cap A f) b a->dD (mE E Dd) a->Way Goal l (G ((base 22).at a [.code pj]) (c₁::cs)) v):
 ∀(m i:Nat),i+m=n->∀(l:Loc->Prop)(Dd:Nat->Prop)(t v:AK)(a:Act)(f:Aq)(b:List Nat),nC (mE E Dd) l->CG E Dd v0 t v->L22 E A ss (gf x 0 (ss.take i)) (dr x 0 (ss.take i)) f b t->At (bI E n i cap A f) b a->dD (mE E Dd) a->(∀D,D∈b->¬Dd D)->
  Way Goal l (G ((base 22).at a [.code xO,.inLoop xO,.inBlock 0,.code pj]) (c₁::cs)) v:=by
 intro m;induction m with
 |zero=>
  intro i hi l Dd t v a f b g h L M u z;obtain rfl:i=n:=oM
  suffices B:Way Goal l (G ((base 22).at a (.code (.seq zt (.seq (.cond (.tmp 24) .skip (.exit 0)) (.seq (.block 1 nM) tj)))::[.inLoop xO,.inBlock 0,.code pj])) (c₁::cs)) v by
   rw[<-D9]at B;exact B
  refine .seq ?_;refine h.piece g Ow u (R:=λa' w'=>At ((24,.bool (decide (i<i)))::bI E i i cap A f) b a'/\L22 E A ss (gf x 0 (ss.take i)) (dr x 0 (ss.take i)) f b w') (λW e=>?_) ?_
  .have d:=L.same e;exact abx (λe a' w' C=>by
    obtain⟨q1,F,rfl⟩:=C;exact⟨q1,⟨F,d⟩,λ_ _=>rfl⟩) (Ot M)
  rintro a1 H v1⟨j,o⟩ k N;refine .seq ?_;refine .ctl rfl (λv=>acN (j.ev ZJ)) ?_;rw[Zr sM];refine .ctl rfl (λv=>stepG_exit (k':=[.code pj]) rfl) ?_;have O:ss.take i=ss:=List.take_of_length_le oM;rw[O]at o;exact K l Dd H v1 a1 f b g N o (j.sub λp z=>aai _ z) k
 |succ m ih=>
  intro i hi l Dd t v a f b g h L M u z;have w:i<ss:=oM;have hs:ss[i]?=ss[i]:=ZN w
  suffices B:Way Goal l (G ((base 22).at a (.code (.seq zt (.seq (.cond (.tmp 24) .skip (.exit 0)) (.seq (.block 1 nM) tj)))::[.inLoop xO,.inBlock 0,.code pj])) (c₁::cs)) v by
   rw[<-D9]at B;exact B
  refine .seq ?_;refine h.piece g Ow u (R:=λa' w'=>At ((24,.bool (decide (i<n)))::bI E n i cap A f) b a'/\L22 E A ss (gf x 0 (ss.take i)) (dr x 0 (ss.take i)) f b w') (λW e=>?_) ?_
  .have d:=L.same e;exact abx (λe a' w' C=>by
    obtain⟨q1,F,rfl⟩:=C;exact⟨q1,⟨F,d⟩,λ_ _=>rfl⟩) (Ot M)
  rintro a1 H v1⟨j,o⟩ k N;refine .seq ?_;refine .ctl rfl (λv=>acN (j.ev ZJ)) ?_;rw[ZC sO];refine .ctl rfl (λv=>abn) ?_;refine .seq ?_;refine .ctl rfl (λv=>acj) ?_;refine O3 hT hx (hy _ (aer w)) hs oM (by rw[pQ,aaY];omega) g N o (j.sub λp z=>aai _ z) k z ?_;intro P Q wl2 v2 a2 S y q h2 T U I V;have O:ss.take (i+1)=ss.take i++[ss[i]]:=aas w;refine .ctl rfl (λv=>adG) ?_;refine h2.piece q Pt I (R:=λa' w'=>At (bI E n (i+1) cap A S) y a'/\L22 E A ss (gf x 0 (ss.take (i+1))) (dr x 0 (ss.take (i+1))) S y w') (λW e=>?_) ?_
  .have d:=T.same e;rw[<-vu,<-Az,<-O]at d;exact abx (λe a' w' C=>by
    obtain⟨q1,F,rfl⟩:=C;exact⟨q1,⟨F,d⟩,λ_ _=>rfl⟩) (Pf U oM)
  rintro a3 X v3⟨Y,Z⟩ J h3;exact .ctl rfl (λv=>adW) (ih (i+1) oM P Q X v3 a3 S y q h3 Z Y J V)
def Pd{u:Aq}(hT:ga v0)(hu:SW v0 u ss)(hn2:(ss:Nat)<=1048576)(hx:∀r,(x r).2.1<256)(hy:∀s,s∈ss->Say x s)
 (O:∀(Sh:Loc->Prop)(Dd:Nat->Prop)(v:AK)(K:Aq),(∀l,Sh l->∃a,l=.cell a/\Dd a.block)->(∀b,Dd b->(v0:Nat)<=b/\b<(v:Nat))->(∀T,Dq (aK (fu Dd v) T v) K (gf x 0 ss))->(v0:Nat)<=(v:Nat)->(∀b,b<(v0:Nat)->v.heap[b]?=v0.heap[b]?)->
  v.tape=v0.tape->v.os=v0.os->v.output=v0.output->Way Goal Sh (G (c₁.finish K) cs) v):
 Way Goal (λ_=>False) (G (Frame.enter prog 22 #[u] .normal) (c₁::cs)) v0:=by
 obtain⟨A,cap,rfl⟩:=hu.len;have P:nC (mE (v0:Nat) λ_=>False) (λ_=>False):=λl hl=>hl.elim;have w:(v0:Nat)≠0:=by
  obtain⟨fz,h0⟩:=hT;have:=(Zq.1 h0).1;omega
 rw[aeo (c:=mj) _ func22 rfl];have f:At [(0,.slice A (ss:Nat) cap)] [] {tmps:=#[.slice A (ss:Nat) cap]++Array.replicate (f22.ntmps-(#[Value.slice A (ss:Nat) cap]:Array Aq).size) C0,defers:=[]}:=⟨by simp[f22],rfl,λp L=>by
  obtain rfl:=aag.1 L;simp⟩
 have B:dD (mE (v0:Nat) λ_=>False) {tmps:=#[.slice A (ss:Nat) cap]++Array.replicate (f22.ntmps-(#[Value.slice A (ss:Nat) cap]:Array Aq).size) C0,defers:=[]}:=⟨λv N=>by
  rcases aby.1 N with N|N
  .simp only[Array.mem_singleton]at N;subst N;exact .sc rfl
  obtain⟨_,rfl⟩:=acw.1 N;exact mB (Cw _ _),λd e=>by simp at e⟩
 generalize({tmps:=#[.slice A (ss:Nat) cap]++Array.replicate (f22.ntmps-(#[Value.slice A (ss:Nat) cap]:Array Aq).size) C0,defers:=[]}:Act)=a0 at f B⊢;rw[Hb];refine .seq ?_;rw[IV];refine .region ?_;rw[Mr];refine ae7 (x:=.slice none 0 0) rfl rfl dC (λv=>by simp[Lk,Act.eval]) (λv=>by simp[Lk]) ?_;refine .region_end ?_;have hA1:=At.put f (k:=2) dC (.slice none 0 0) sM;have Q:=B.put (k:=some 2) (x:=.slice none 0 0) (.sc rfl);refine .seq ?_;rw[IQ];refine .region ?_;rw[Mq];refine Way.new (obj:=.cells #[iH 0] 78 (0,0)) rfl rfl dC (λv=>by go_simp) (λv=>by simp[go_sem]) ?_;refine .region_end ?_;have hA2:=At.put hA1 (k:=3) dC (pT (v0:Nat) 0) sM;have S:=Q.put (k:=some 3) (x:=pT (v0:Nat) 0) (.sc rfl);refine .seq ?_;rw[IN];refine .region ?_;rw[Mp];refine ae7 (x:=.slice none 0 0) rfl rfl dC (λv=>by simp[Lk,Act.eval]) (λv=>by simp[Lk]) ?_;refine .region_end ?_;have U:=At.put hA2 (k:=4) dC (.slice none 0 0) sM;have V:=S.put (k:=some 4) (x:=.slice none 0 0) (.sc rfl);refine .seq (.seq ?_);rw[IK];refine .region ?_;rw[Mo];have e0:=U.ev (k:=0) (x:=.slice A (ss:Nat) cap) sM;refine ae7 (x:=.slice A (ss:Nat) cap) rfl rfl dC (λv=>by simp only[Lk];exact aal (λx=>Result.ok (Next.value x) v) e0) (λv=>by simp[Lk]) ?_;have W:=At.put U (k:=21) dC (.slice A (ss:Nat) cap) sM;have X:=V.put (k:=some 21) (x:=.slice A (ss:Nat) cap) (.sc rfl);have e21:=W.ev (k:=21) (x:=.slice A (ss:Nat) cap) sM;refine ae7 (x:=iI (ss:Nat)) rfl rfl dC (λv=>by have i:=f.1;simp[Lk,go_sem,i,Builtin.len_]) (λv=>by have i:=f.1;simp[Lk,go_sem,i,Builtin.len_]) ?_;have hA5:=At.put W (k:=22) dC (iI (ss:Nat)) sM;have Y:=X.put (k:=some 22) (x:=iI (ss:Nat)) (.sc rfl);refine ae7 (x:=iI (0:Nat)) rfl rfl dC (λv=>by simp[Lk,Act.eval]) (λv=>by simp[Lk]) ?_;have hA6:=At.put hA5 (k:=23) dC (iI (0:Nat)) sM;have Z:=Y.put (k:=some 23) (x:=iI (0:Nat)) (.sc rfl);refine .region_end ?_;refine .ctl rfl (λv=>acj) (.ctl rfl (λv=>stepG_loop) ?_);have t0:Tr (mE (v0:Nat) λ_=>False) (aK (v0.heap.map (fS (FV bq λb=>(v0:Nat)<=b) False)) (λ_ _=>0) v0) v0:=trV (mE (v0:Nat) λ_=>False) v0 _ λ_ h=>h;have t1:=t0.push (o:=.cells #[iH 0] 78 (0,0)) (λx hx=>by
  simp only[Array.mem_singleton]at hx;subst hx;exact .sc rfl)
 have H:=t0.size;have I:∀b,b<(v0:Nat)->((aK (v0.heap.map (fS (FV bq λb=>(v0:Nat)<=b) False)) (λ_ _=>0) v0).alloc (.cells #[iH 0] 78 (0,0))).heap[b]?=(aK (v0.heap.map (fS (FV bq λb=>(v0:Nat)<=b) False)) (λ_ _=>0) v0).heap[b]?:=λb j=>aap _ _ _ oM;have C:=(SW.low (GL:=λb=>(v0:Nat)<=b) hu (λ_ _=>0)).lowSt rfl (E:=v0.heap.size) H.symm;have F:=ga.lone (GL:=λb=>(v0:Nat)<=b) hT (λ_ _=>0);have m:((aK (v0.heap.map (fS (FV bq λb=>(v0:Nat)<=b) False)) (λ_ _=>0) v0).alloc (.cells #[iH 0] 78 (0,0))).heap[(v0:Nat)]?=some (.cells #[iH 0] 78 (0,0)):=by
  have:=World.alloc_heap_new (aK (v0.heap.map (fS (FV bq λb=>(v0:Nat)<=b) False)) (λ_ _=>0) v0) (.cells #[iH 0] 78 (0,0))
  rwa [<-H]at this
 generalize(aK (v0.heap.map (fS (FV bq λb=>(v0:Nat)<=b) False)) (λ_ _=>0) v0)=wl at t0 t1 H I C F m;have hCG:CG (v0:Nat) (λ_=>False) v0 (wl.alloc (.cells #[iH 0] 78 (0,0))) (v0.alloc (.cells #[iH 0] 78 (0,0))):=
  ⟨t1,⟨_,_,_,m⟩,⟨_,_,World.alloc_heap_new _ _,rfl⟩,λb j=>aap _ _ _ j,λ_ h=>h.elim,rfl,rfl,rfl⟩
 have hLL:L22 (v0:Nat) A ss (gf x 0 (ss.take 0)) (dr x 0 (ss.take 0)) (.slice none 0 0) [] (wl.alloc (.cells #[iH 0] 78 (0,0))):=by
  refine⟨C.keep I sM,F.low w I,by simp;omega,w,?_,?_,(by show(0:Nat)<256;decide),⟨[],rfl,⟨rfl,.inl ⟨rfl,rfl⟩⟩,sM⟩,λ_=>rfl,⟨List.nodup_nil,λD q=>by simp at q⟩⟩
  .unfold World.cell?;rw[m];rfl
  unfold World.frozen?;rw[m];rfl
 have hAh:At (bI (v0:Nat) (ss:Nat) 0 cap A (.slice none 0 0)) [] _:=hA6.sub λp L=>by
  simp only[bI,ZM,ZG,aaV]at L⊢;rcases L with rfl|rfl|rfl|rfl|rfl<;>simp
 refine ME rfl hn2 hT hx hy ?_ (ss:Nat) 0 oM _ _ _ _ _ _ [] P hCG hLL hAh Z (λD q=>by simp at q);intro Sh Dd J v a K Ds aa h hL hA hOk;have hlt:=h.lt;refine .of_gone (M:=λ_=>False) (T.tail (R:=λy w'=>y=K/\∀b,b∉Ds->w'.heap[b]?=J.heap[b]?) (cxC _ _) (λb j=>Zz (abw h.lt) j) aa Kf (by
  intro it hit;obtain rfl:=aag.1 hit;exact Jb) hOk (λT=>h.tr.lone T) (λT=>?_) λy wl2 v2 _ hR _ e=>.stop λu hu=>?_)
 .have L:jr 0 (aK J.heap T v) Ds:=⟨hL.pile.1,λD q=>⟨Z7 _,(hL.pile.2 D q).2⟩⟩;obtain⟨w2,q1,_,_,_,_,q6⟩:=O2 (hA.sub (l':=[(4,K)]) (by simp[bI])) (b:=base 22) (cs:=[]) (c:=c0) rfl rfl L;exact⟨K,w2,q1,rfl,q6⟩
 obtain⟨rfl,hk⟩:=hR;have e:=e.eqv (.of_rel hu);have hold:∀b,b<(v0:Nat)->u.heap[b]?=v0.heap[b]?:=λb j=>(e.block (h.tr.lone _) (show¬(v0:Nat)<=b by omega) oM (hk b λq=>by
  have:=(hL.pile.2 b q).1;omega)).trans (h.old b j)
 have i:=e.size;have hOut:kq wl2 ((v0:Nat)+1) y (gf x 0 ss):=by
  have hz1:(J:Nat)<=(wl2:Nat):=by
   have:=e.tr.size;have:=h.tr.size;omega
  exact hL.out.keep hz1 λg c t z _ _ hc=>hk g λq=>by
   have:=(hL.pile.2 g q).2;rw[hc]at this;cases this
 exact O Sh Dd u y aa (λb j=>by
  have h1:=(h.tr.dead b j).1;have h2:=h.dd b j;have:=h.tr.size;omega) (λT=>Dq.of e.tr hOut T) oM hold (e.tape.trans h.tape) (e.os.trans h.os) (e.out.trans h.out)
end
end T
end Go.Proofs.YtldmbneckcjonaaDoor
