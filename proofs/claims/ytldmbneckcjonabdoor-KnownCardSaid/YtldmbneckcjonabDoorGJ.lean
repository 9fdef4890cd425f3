/- Several texts in one: The last step of every law: of a walk that answers true and changes nothing that was there, the row's own post. · From a sequential contract to the row of a law that may start goroutines, its table laid; and its tied card. Conditions: as each statement says. -/
import Derived.Below
import Derived.ChangeSame
import Derived.WideKeyArgs
import Derived.Conc.LeavingOf
import Derived.Handed
import Derived.LaidMore
import Derived.OpenShut
import Derived.Leaving
import Derived.SevenTiedAt
import Derived.Test.YtldmbneckcjonabDoorRows
import Derived.Test.YtldmbneckcjonabDoorGS
import Derived.Test.YtldmbneckcjonabDoorTie
set_option linter.unusedVariables false
set_option linter.unusedSimpArgs false
namespace Go.Proofs.YtldmbneckcjonabDoor
open Go.RowKit Go.WideShapes Go.ChangeShapes Go.ChangeAt
section
variable {H : Type} {enc : TypeId × Value → H} {P : Program}
theorem post_of_below {f : Func} {s : ChangeSpec} {apart fresh handsOn again : Bool} {W W' : World} {args : Array Value} {v : Value} {ds gs : List (DataW H)} {before pa pv : List MemPlace}
    (hW : DataW.Whole enc P f.params.toList s.vars apart W args.toList ds gs before)
    (hres : ∀ (b : Nat) (sp : Nat → Bool) (hd : Bool), DataW.TrodAll enc P W' b sp hd f.resultTypes.toList (v.resultList f.resultTypes.size) (s.fn H (ds ++ gs)).results [])
    (hargs : ∀ sp : Nat → Bool, (∀ p ∈ before, sp p.block = true) → DataW.TrodAll enc P W' 0 sp true f.params.toList args.toList (s.fn H (ds ++ gs)).args pa)
    (hvars : ∀ sp : Nat → Bool, (∀ p ∈ before, sp p.block = true) → DataW.TrodVars enc P W' sp s.vars (s.fn H (ds ++ gs)).vars pv)
    (hps : before = pa ++ pv) (hb : Below W.heap.size W W')
    (hok : ∀ (j : Nat) (t : TypeId) (r : Value), f.resultTypes[j]? = some t → (v.resultList f.resultTypes.size)[j]? = some r → Value.okWide P W' .any 0 t r) :
    s.post enc P f apart fresh handsOn again W args v W' := by
  have hlt : ∀ p ∈ before, p.block < W.heap.size := fun p hp => hW.lt p hp
  have hold : ∀ p ∈ before, (fun b => decide (b < W.heap.size)) p.block = true := fun p hp => by simpa using hlt p hp
  refine ⟨ds, gs, before, [], pa, pv, hW, hres _ _ _, hargs _ hold, hvars _ hold, World.keptBut_mono (fun p hp => ⟨hp, ?_⟩) (hb.frame (· ∈ before)), fun _ => ?_⟩
  · rw [hps, List.mem_append] at hp
    exact Or.inr hp
  · obtain ⟨_, _, _, _, _, hz, hn⟩ := hW
    refine ⟨hok, _, _, ([] ++ pa) ++ pv, ⟨[] ++ pa, pv, trodAll_append (hargs _ (fun _ _ => rfl)) (hres _ _ _), hvars _ (fun _ _ => rfl), rfl, ?_, ?_⟩, ?_⟩
    · intro b off hp
      have hin : MemPlace.cell b off ∈ before := by rw [hps]; simpa using hp
      rw [hb.frozen (hlt _ hin)]
      exact hz b off hin
    · intro ha
      have := hn ha
      rw [hps] at this
      simpa using this
    · intro p hp _
      rw [hps]
      simpa using hp
end
theorem block_add (a : Addr) (n : Nat) : (a.add n).block = a.block := by unfold Addr.add; split <;> rfl
theorem own : ownKnob Tryd.prog.godebug = none := by kernel_rfl
theorem laidOut : laidOutB Tryd.prog = true := by kernel_rfl
/-- A law's spec: true; the input reads as it did. -/
def lawSpec (nm : String) : ChangeSpec := { name := nm, fn := fun _ => fun
  | [d] => { results := [.lit (.bool true)], args := [d] }
  | _ => Rows.none }
set_option maxRecDepth 100000 in
theorem law_shut {H : Type} {enc : TypeId × Value → H} {nm : String} {f : Func} (hp : f.params = #[22]) (hr : f.resultTypes = #[4]) {W : World} {args : Array Value} {ds gs : List (DataW H)} {before : List MemPlace}
    (hval : ∀ (j : Nat) t v, f.params[j]? = some t → args[j]? = some v → Value.okWide Tryd.prog W .any W.heap.size t v ∨ ∃ base, Value.okWide Tryd.prog W .any base t v)
    (hW : DataW.Whole enc Tryd.prog f.params.toList (lawSpec nm).vars false W args.toList ds gs before) :
    ∃ (A : Option Addr) (len cap : Nat), args = #[.slice A len cap] ∧ len ≤ maxLen ∧ (∀ i, i < len → ∃ a, A = some a ∧ a.block < W.heap.size ∧ StepAt W (ReadsLL enc W 0 (fun _ => true) true) (a.add (i * 8))) ∧
      ∀ W', Below W.heap.size W W' → (lawSpec nm).post enc Tryd.prog f false true false false W args (.bool true) W' := by
  have hW' := hW
  obtain ⟨p, q, hA0, hV, rfl, hfz, hnd⟩ := hW
  have hA : DataW.TrodAll enc Tryd.prog W 0 (fun _ => true) true f.params.toList args.toList ds p := hA0
  rw [hp] at hA hval
  obtain ⟨v0, d0, hargs, rfl, h0⟩ := trodAll_one hA
  have hargs : args = #[v0] := by simpa using hargs
  subst hargs
  obtain ⟨rfl, rfl⟩ := trodVars_none hV
  have h0k := h0
  obtain ⟨fuel, hf⟩ := h0
  simp only [List.append_nil] at hW'
  have hlt : ∀ x ∈ p, x.block < W.heap.size := fun x hx => by simpa using hW'.lt x hx
  have hsl : ∃ a len cap, v0 = .slice a len cap := by
    rcases hval 0 _ v0 rfl rfl with h | ⟨b, h⟩ <;> exact okWide_slice Tryd.underlying22 h
  obtain ⟨A, len, cap, rfl⟩ := hsl
  have fin : ∀ W', Below W.heap.size W W' → (lawSpec nm).post enc Tryd.prog f false true false false W #[.slice A len cap] (.bool true) W' := by
    intro W' hb
    refine post_of_below (pa := p) (pv := []) hW' (fun _ _ _ => ?_) (fun sp hsp => ?_) (fun _ _ => rfl) (by simp) hb ?_
    · rw [hr]; exact trodAll_mk1 (shut_bool Tryd.underlying4 _)
    · rw [hp]
      exact trodAll_mk1 (WideElems.Trod_stays laidOut (by kernel_rfl) (of_decide_eq_true (by kernel_rfl)) h0k (fun x hx => hb.same (hlt x hx)) hsp)
    · exact ok_one hr rfl (okWide_bool_mk Tryd.underlying4 _)
  have hcs : Value.cells (.slice A len cap) = #[.slice A len cap] := rfl
  rcases open_script hf with h | ⟨a, len', cap', h, hl, hm, hi⟩
  · have h' : (Value.cells (.slice A len cap)).toList = [.slice none 0 0] := h
    simp [hcs] at h'
    obtain ⟨rfl, rfl, rfl⟩ := h'
    exact ⟨none, 0, 0, rfl, by decide, fun i hi => by omega, fin⟩
  · have h' : (Value.cells (.slice A len cap)).toList = [.slice (some a) len' cap'] := h
    simp [hcs] at h'
    obtain ⟨rfl, rfl, rfl⟩ := h'
    refine ⟨some a, len, cap, rfl, by omega, fun i hil => ⟨a, rfl, ?_, hi i hil⟩, fin⟩
    obtain ⟨_, _, _, _, _, _, _, _, hc, _⟩ := hi i hil
    have hb := World.block_lt_of_cell? _ _ hc
    rwa [block_add] at hb
end Go.Proofs.YtldmbneckcjonabDoor
namespace Go.Proofs.YtldmbneckcjonabDoor
open Go.RowKit Go.WideShapes Go.ChangeShapes Go.ChangeAt
theorem leaving_of_handed {a : Assume} {C : Checked} {os : Os} {f : FuncId} {r : Reach} {Pre : World → Array Value → Prop} {Post : World → Array Value → Value → World → Prop} (h : ReturnsInHanded a C os f r Pre Post) : ReturnsInLeavingWide a C os f r Pre Post :=
  fun enter => ReturnsInOpen.mono (fun _ _ _ x => ⟨x.2.1, onlyLeaving_of_quiet x.1, x.2.2⟩) (fun _ x => x) (h enter)
theorem gTable : Tryd.prog.globalNamed "softfloat/soft.table" = some 0 := by kernel_rfl
theorem tTable : (Tryd.prog.globals[0]?).map (·.type) = some 44 := by kernel_rfl
def laidL : List (String × DataW Unit) := [("softfloat/soft.table", Rows.laid_softfloat_soft_table)]
theorem cellsOpn : Tryd.prog.cellsOf 43 = 2 := by kernel_rfl
theorem cellsFn : Tryd.prog.cellsOf 34 = 1 := by kernel_rfl
theorem cellsI : Tryd.prog.cellsOf 3 = 1 := by kernel_rfl
set_option maxRecDepth 100000 in
/-- One row of the table. -/
theorem row_of {w : World} {base : Nat} {sp : Nat → Bool} {fuel n : Nat} {cs : List Value} {q : List MemPlace} {b : UInt8} {r : List UInt8} {f0 : FuncId}
    (hone : ((List.range Tryd.prog.funcs.size).filter fun f => (Tryd.prog.funcs[f]?).any (·.name.toUTF8.data.toList == b :: r)) = [f0])
    (h : DataW.trod (funcToken Tryd.prog) Tryd.prog w base sp true fuel 43 cs = some (.agg [.lit (.int .i64 n), .held (b :: r)], q)) : cs = [.int .i64 n, .func (.func f0) #[] #[]] := by
  obtain ⟨xs, m, _, hx, hl, hxl, hf⟩ := DataW.trod_struct Tryd.underlying43 h
  rw [cellsOpn] at hl
  match cs, hl with
  | [c0, c1], _ =>
    match xs, hxl with
    | [y0, y1], _ =>
      have f0' := hf 0 { name := "operands", type := 3, offset := 0, embedded := false, tag := "", pkgPath := "softfloat/soft", byteOffset := 0 } rfl
      have f1' := hf 1 { name := "do", type := 34, offset := 1, embedded := false, tag := "", pkgPath := "softfloat/soft", byteOffset := 8 } rfl
      simp only [cellsI, cellsFn, List.drop_zero, List.drop_succ_cons, List.take_succ_cons, List.take_zero, List.getElem?_cons_zero, List.getElem?_cons_succ] at f0' f1'
      simp only [Prod.mk.injEq, DataW.agg.injEq, List.map_cons, List.map_nil, List.cons.injEq, and_true] at hx
      obtain ⟨⟨h0, h1⟩, _⟩ := hx
      obtain ⟨y0a, y0b⟩ := y0
      obtain ⟨y1a, y1b⟩ := y1
      simp only at h0 h1
      subst h0 h1
      obtain ⟨v, e0, hv, _⟩ := DataW.trod_int Tryd.underlying3 f0'
      obtain rfl := func_of_trod Tryd.underlying34 hone f1'
      simp only [List.cons.injEq, and_true] at e0
      subst e0
      simp only [Prod.mk.injEq, DataW.lit.injEq, Lit.int.injEq, true_and] at hv
      rw [hv.1]
theorem one_1 : ((List.range Tryd.prog.funcs.size).filter fun f => (Tryd.prog.funcs[f]?).any (·.name.toUTF8.data.toList == [115, 111, 102, 116, 102, 108, 111, 97, 116, 47, 115, 111, 102, 116, 46, 97, 100, 100])) = [33] := by kernel_rfl
theorem one_2 : ((List.range Tryd.prog.funcs.size).filter fun f => (Tryd.prog.funcs[f]?).any (·.name.toUTF8.data.toList == [115, 111, 102, 116, 102, 108, 111, 97, 116, 47, 115, 111, 102, 116, 46, 115, 117, 98])) = [34] := by kernel_rfl
theorem one_3 : ((List.range Tryd.prog.funcs.size).filter fun f => (Tryd.prog.funcs[f]?).any (·.name.toUTF8.data.toList == [115, 111, 102, 116, 102, 108, 111, 97, 116, 47, 115, 111, 102, 116, 46, 109, 117, 108])) = [35] := by kernel_rfl
theorem one_4 : ((List.range Tryd.prog.funcs.size).filter fun f => (Tryd.prog.funcs[f]?).any (·.name.toUTF8.data.toList == [115, 111, 102, 116, 102, 108, 111, 97, 116, 47, 115, 111, 102, 116, 46, 100, 105, 118])) = [36] := by kernel_rfl
theorem one_5 : ((List.range Tryd.prog.funcs.size).filter fun f => (Tryd.prog.funcs[f]?).any (·.name.toUTF8.data.toList == [115, 111, 102, 116, 102, 108, 111, 97, 116, 47, 115, 111, 102, 116, 46, 102, 109, 97])) = [37] := by kernel_rfl
theorem one_6 : ((List.range Tryd.prog.funcs.size).filter fun f => (Tryd.prog.funcs[f]?).any (·.name.toUTF8.data.toList == [115, 111, 102, 116, 102, 108, 111, 97, 116, 47, 115, 111, 102, 116, 46, 115, 113, 114, 116])) = [38] := by kernel_rfl
theorem one_7 : ((List.range Tryd.prog.funcs.size).filter fun f => (Tryd.prog.funcs[f]?).any (·.name.toUTF8.data.toList == [115, 111, 102, 116, 102, 108, 111, 97, 116, 47, 115, 111, 102, 116, 46, 114, 115, 113, 114, 116])) = [39] := by kernel_rfl
theorem one_8 : ((List.range Tryd.prog.funcs.size).filter fun f => (Tryd.prog.funcs[f]?).any (·.name.toUTF8.data.toList == [115, 111, 102, 116, 102, 108, 111, 97, 116, 47, 115, 111, 102, 116, 46, 99, 98, 114, 116])) = [40] := by kernel_rfl
theorem one_9 : ((List.range Tryd.prog.funcs.size).filter fun f => (Tryd.prog.funcs[f]?).any (·.name.toUTF8.data.toList == [115, 111, 102, 116, 102, 108, 111, 97, 116, 47, 115, 111, 102, 116, 46, 104, 121, 112, 111, 116])) = [41] := by kernel_rfl
theorem one_10 : ((List.range Tryd.prog.funcs.size).filter fun f => (Tryd.prog.funcs[f]?).any (·.name.toUTF8.data.toList == [115, 111, 102, 116, 102, 108, 111, 97, 116, 47, 115, 111, 102, 116, 46, 116, 97, 98, 108, 101, 36, 49])) = [42] := by kernel_rfl
set_option maxRecDepth 100000 in
theorem of_laid {W : World} (h : laidMetH Tryd.prog laidL W) : TableAt W := by
  obtain ⟨g, t, cs, fuel, p, hg, ht, hv, hd⟩ := h.funcs (List.mem_singleton.2 rfl)
  obtain rfl := Option.some.inj (gTable.symm.trans hg)
  obtain rfl := Option.some.inj (tTable.symm.trans ht)
  have hd' : DataW.trod (funcToken Tryd.prog) Tryd.prog W 0 (fun _ => true) true fuel 44 cs.toList = some (.agg [.agg [.lit (.int .i64 0), .nil], .agg [.lit (.int .i64 2), .held [115, 111, 102, 116, 102, 108, 111, 97, 116, 47, 115, 111, 102, 116, 46, 97, 100, 100]], .agg [.lit (.int .i64 2), .held [115, 111, 102, 116, 102, 108, 111, 97, 116, 47, 115, 111, 102, 116, 46, 115, 117, 98]], .agg [.lit (.int .i64 2), .held [115, 111, 102, 116, 102, 108, 111, 97, 116, 47, 115, 111, 102, 116, 46, 109, 117, 108]], .agg [.lit (.int .i64 2), .held [115, 111, 102, 116, 102, 108, 111, 97, 116, 47, 115, 111, 102, 116, 46, 100, 105, 118]], .agg [.lit (.int .i64 3), .held [115, 111, 102, 116, 102, 108, 111, 97, 116, 47, 115, 111, 102, 116, 46, 102, 109, 97]], .agg [.lit (.int .i64 1), .held [115, 111, 102, 116, 102, 108, 111, 97, 116, 47, 115, 111, 102, 116, 46, 115, 113, 114, 116]], .agg [.lit (.int .i64 1), .held [115, 111, 102, 116, 102, 108, 111, 97, 116, 47, 115, 111, 102, 116, 46, 114, 115, 113, 114, 116]], .agg [.lit (.int .i64 1), .held [115, 111, 102, 116, 102, 108, 111, 97, 116, 47, 115, 111, 102, 116, 46, 99, 98, 114, 116]], .agg [.lit (.int .i64 2), .held [115, 111, 102, 116, 102, 108, 111, 97, 116, 47, 115, 111, 102, 116, 46, 104, 121, 112, 111, 116]], .agg [.lit (.int .i64 0), .held [115, 111, 102, 116, 102, 108, 111, 97, 116, 47, 115, 111, 102, 116, 46, 116, 97, 98, 108, 101, 36, 49]]], p) := hd
  obtain ⟨xs, m, _, hx, hl, hxl, hi⟩ := DataW.trod_array Tryd.underlying44 hd'
  simp only [Prod.mk.injEq, DataW.agg.injEq] at hx
  have hx1 := hx.1
  have hc : ∀ i, W.cell? ⟨0, i, none⟩ = cs.toList[i]? := fun i => by rw [Array.getElem?_toList]; exact World.var?_cell hg hv i
  rw [cellsOpn] at hi
  have key : ∀ (i n : Nat) (f0 : FuncId), (cs.toList.drop (i * 2)).take 2 = [.int .i64 n, .func (.func f0) #[] #[]] → W.cell? ⟨0, i * 2, none⟩ = some (.int .i64 n) ∧ W.cell? ⟨0, i * 2 + 1, none⟩ = some (.func (.func f0) #[] #[]) := fun i n f0 hdt => by
    have a0 := congrArg (·[0]?) hdt
    have a1 := congrArg (·[1]?) hdt
    simp only [List.getElem?_take, List.getElem?_drop] at a0 a1
    rw [hc, hc]
    exact ⟨by simpa using a0, by simpa using a1⟩
  match xs, hxl with
  | [y0, y1, y2, y3, y4, y5, y6, y7, y8, y9, y10], _ =>
    simp only [List.map_cons, List.map_nil, List.cons.injEq, and_true] at hx1
    obtain ⟨_, g1, g2, g3, g4, g5, g6, g7, g8, g9, g10⟩ := hx1
    intro op h1 h2
    have hcs : op = 1 ∨ op = 2 ∨ op = 3 ∨ op = 4 ∨ op = 5 ∨ op = 6 ∨ op = 7 ∨ op = 8 ∨ op = 9 ∨ op = 10 := by omega
    rcases hcs with rfl | rfl | rfl | rfl | rfl | rfl | rfl | rfl | rfl | rfl
    · have e := hi 1 (by decide)
      obtain ⟨ya, yb⟩ := y1
      simp only at g1
      subst g1
      exact key 1 _ _ (row_of one_1 e)
    · have e := hi 2 (by decide)
      obtain ⟨ya, yb⟩ := y2
      simp only at g2
      subst g2
      exact key 2 _ _ (row_of one_2 e)
    · have e := hi 3 (by decide)
      obtain ⟨ya, yb⟩ := y3
      simp only at g3
      subst g3
      exact key 3 _ _ (row_of one_3 e)
    · have e := hi 4 (by decide)
      obtain ⟨ya, yb⟩ := y4
      simp only at g4
      subst g4
      exact key 4 _ _ (row_of one_4 e)
    · have e := hi 5 (by decide)
      obtain ⟨ya, yb⟩ := y5
      simp only at g5
      subst g5
      exact key 5 _ _ (row_of one_5 e)
    · have e := hi 6 (by decide)
      obtain ⟨ya, yb⟩ := y6
      simp only at g6
      subst g6
      exact key 6 _ _ (row_of one_6 e)
    · have e := hi 7 (by decide)
      obtain ⟨ya, yb⟩ := y7
      simp only at g7
      subst g7
      exact key 7 _ _ (row_of one_7 e)
    · have e := hi 8 (by decide)
      obtain ⟨ya, yb⟩ := y8
      simp only at g8
      subst g8
      exact key 8 _ _ (row_of one_8 e)
    · have e := hi 9 (by decide)
      obtain ⟨ya, yb⟩ := y9
      simp only at g9
      subst g9
      exact key 9 _ _ (row_of one_9 e)
    · have e := hi 10 (by decide)
      obtain ⟨ya, yb⟩ := y10
      simp only at g10
      subst g10
      exact key 10 _ _ (row_of one_10 e)
/-- The door's own heap meets the condition. -/
theorem door_met (os : Os) (args : Array Value) : laidMetH Tryd.prog laidL ((World.doorLaid Tryd.prog 600 os).forCall (fun _ _ => 0) ⟨#[], args, []⟩).memory :=
  laidMetH_of_parts3 (fuel := 8) (laidMet_of_run' 8 (by kernel_rfl) (by kernel_rfl)) (by kernel_rfl) (by kernel_rfl)
/-- A tied card whose cell 'goes' is true. -/
theorem holds_tied_goes (Lk : Looks) {p : Pinned} {s : OpenSpec} {c : OpenClaim} (kinds : List LaidKind) (tests : Bool) (har : Bool × String) (lk : Bool)
    (hc : c.holds p s) (hw : c.wfByText s = true) (htie : c.laidByTextAt Lk p kinds tests)
    (hst : c.start = .entering) (hnb : c.noBlocks = false ∧ c.again = false) (hm : p.checked.prog.mainIs = some (har.1, har.2.toList)) (hn : (!har.1 && har.2.isEmpty && !lk) = false)
    (hl : ∀ f fn, p.checked.prog.funcNamed c.func = some f → p.checked.prog.funcs[f]? = some fn → lk = p.checked.prog.looks [] ∧ ∀ (j : Nat) t, fn.params[j]? = some t → p.checked.prog.wantsStandIn t = false)
    (hg : true = c.goesBy p.checked.prog) :
    Claim7.holds p (.plain s) { stood := { row := c, standIns := [], harness := har, looks := lk }, kinds := [], alts := [], goes := true, laidByText := true, laidKinds := kinds, laidTests := tests, laidLooks := Lk } := by
  have h6 : ∀ r : OpenClaim, Claim7.isSixth { stood := { row := r, standIns := [], harness := har, looks := lk }, kinds := [] } = false := fun r => by simpa [Claim7.isSixth] using hn
  have h := Claim7.tied_new_at Lk kinds tests (Claim7.new_of_sixth hc har lk hst hnb hm (h6 c) hl) hw
  exact ⟨h, (fun D hD => by cases hD), htie, (fun h => by cases h), hg⟩
end Go.Proofs.YtldmbneckcjonabDoor
