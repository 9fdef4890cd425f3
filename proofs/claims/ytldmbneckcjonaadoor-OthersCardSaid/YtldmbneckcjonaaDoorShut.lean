/- The last step of every law: of a walk that answers true and changes nothing that was there, the row's own post. -/
import Derived.Test.YtldmbneckcjonaaDoorRows
import Derived.Test.YtldmbneckcjonaaDoorScript
import Derived.Below
import Derived.ChangeSame
import Derived.WideKeyArgs
namespace Go.Proofs.YtldmbneckcjonaaDoor
open Go.RowKit Go.WideShapes Go.ChangeShapes Go.ChangeAt
section
variable {H : Type} {enc : TypeId × Value → H} {P : Program}
theorem post_of_below {f : Func} {s : ChangeSpec} {apart fresh handsOn again : Bool} {W W' : World} {args : Array Value} {v : Value} {ds gs : List (DataW H)} {before pa pv : List MemPlace}
    (hW : DataW.Whole enc P f.params.toList s.vars apart W args.toList ds gs before)
    (hres : ∀ (b : Nat) (sp : Nat → Bool) (hd : Bool), DataW.TrodAll enc P W' b sp hd f.resultTypes.toList (v.resultList f.resultTypes.size) (s.fn H (ds ++ gs)).results [])
    (hargs : ∀ sp : Nat → Bool, (∀ p ∈ before, sp p.block = true) → DataW.TrodAll enc P W' 0 sp true f.params.toList args.toList (s.fn H (ds ++ gs)).args pa)
    (hvars : ∀ sp : Nat → Bool, (∀ p ∈ before, sp p.block = true) → DataW.TrodVars enc P W' sp s.vars (s.fn H (ds ++ gs)).vars pv)
    (hps : before = pa ++ pv) (hb : Below W.heap.size W W')
    (hok : ∀ (j : Nat) (t : TypeId) (r : Value), f.resultTypes[j]? = some t → (v.resultList f.resultTypes.size)[j]? = some r → Value.okWide P W' .any 0 t r) :
    s.post enc P f apart fresh handsOn again W args v W' := by
  have hlt : ∀ p ∈ before, p.block < W.heap.size := fun p hp => hW.lt p hp
  have hold : ∀ p ∈ before, (fun b => decide (b < W.heap.size)) p.block = true := fun p hp => by simpa using hlt p hp
  refine ⟨ds, gs, before, [], pa, pv, hW, hres _ _ _, hargs _ hold, hvars _ hold, World.keptBut_mono (fun p hp => ⟨hp, ?_⟩) (hb.frame (· ∈ before)), fun _ => ?_⟩
  · rw [hps, List.mem_append] at hp
    exact Or.inr hp
  · obtain ⟨_, _, _, _, _, hz, hn⟩ := hW
    refine ⟨hok, _, _, ([] ++ pa) ++ pv, ⟨[] ++ pa, pv, trodAll_append (hargs _ (fun _ _ => rfl)) (hres _ _ _), hvars _ (fun _ _ => rfl), rfl, ?_, ?_⟩, ?_⟩
    · intro b off hp
      have hin : MemPlace.cell b off ∈ before := by rw [hps]; simpa using hp
      rw [hb.frozen (hlt _ hin)]
      exact hz b off hin
    · intro ha
      have := hn ha
      rw [hps] at this
      simpa using this
    · intro p hp _
      rw [hps]
      simpa using hp
end
theorem block_add (a : Addr) (n : Nat) : (a.add n).block = a.block := by unfold Addr.add; split <;> rfl
theorem own : ownKnob Tryd.prog.godebug = none := by kernel_rfl
theorem laidOut : laidOutB Tryd.prog = true := by kernel_rfl
/-- A law's spec: true; the input reads as it did. -/
def lawSpec (nm : String) : ChangeSpec := { name := nm, fn := fun _ => fun
  | [d] => { results := [.lit (.bool true)], args := [d] }
  | _ => Rows.none }
set_option maxRecDepth 100000 in
theorem law_shut {H : Type} {enc : TypeId × Value → H} {nm : String} {f : Func} (hp : f.params = #[22]) (hr : f.resultTypes = #[4]) {W : World} {args : Array Value} {ds gs : List (DataW H)} {before : List MemPlace}
    (hval : ∀ (j : Nat) t v, f.params[j]? = some t → args[j]? = some v → Value.okWide Tryd.prog W .any W.heap.size t v ∨ ∃ base, Value.okWide Tryd.prog W .any base t v)
    (hW : DataW.Whole enc Tryd.prog f.params.toList (lawSpec nm).vars false W args.toList ds gs before) :
    ∃ (A : Option Addr) (len cap : Nat), args = #[.slice A len cap] ∧ len ≤ maxLen ∧ (∀ i, i < len → ∃ a, A = some a ∧ a.block < W.heap.size ∧ StepAt W (ReadsLL enc W 0 (fun _ => true) true) (a.add (i * 8))) ∧
      ∀ W', Below W.heap.size W W' → (lawSpec nm).post enc Tryd.prog f false true false false W args (.bool true) W' := by
  have hW' := hW
  obtain ⟨p, q, hA0, hV, rfl, hfz, hnd⟩ := hW
  have hA : DataW.TrodAll enc Tryd.prog W 0 (fun _ => true) true f.params.toList args.toList ds p := hA0
  rw [hp] at hA hval
  obtain ⟨v0, d0, hargs, rfl, h0⟩ := trodAll_one hA
  have hargs : args = #[v0] := by simpa using hargs
  subst hargs
  obtain ⟨rfl, rfl⟩ := trodVars_none hV
  have h0k := h0
  obtain ⟨fuel, hf⟩ := h0
  simp only [List.append_nil] at hW'
  have hlt : ∀ x ∈ p, x.block < W.heap.size := fun x hx => by simpa using hW'.lt x hx
  have hsl : ∃ a len cap, v0 = .slice a len cap := by
    rcases hval 0 _ v0 rfl rfl with h | ⟨b, h⟩ <;> exact okWide_slice Tryd.underlying22 h
  obtain ⟨A, len, cap, rfl⟩ := hsl
  have fin : ∀ W', Below W.heap.size W W' → (lawSpec nm).post enc Tryd.prog f false true false false W #[.slice A len cap] (.bool true) W' := by
    intro W' hb
    refine post_of_below (pa := p) (pv := []) hW' (fun _ _ _ => ?_) (fun sp hsp => ?_) (fun _ _ => rfl) (by simp) hb ?_
    · rw [hr]; exact trodAll_mk1 (shut_bool Tryd.underlying4 _)
    · rw [hp]
      exact trodAll_mk1 (WideElems.Trod_stays laidOut (by kernel_rfl) (of_decide_eq_true (by kernel_rfl)) h0k (fun x hx => hb.same (hlt x hx)) hsp)
    · exact ok_one hr rfl (okWide_bool_mk Tryd.underlying4 _)
  have hcs : Value.cells (.slice A len cap) = #[.slice A len cap] := rfl
  rcases open_script hf with h | ⟨a, len', cap', h, hl, hm, hi⟩
  · have h' : (Value.cells (.slice A len cap)).toList = [.slice none 0 0] := h
    simp [hcs] at h'
    obtain ⟨rfl, rfl, rfl⟩ := h'
    exact ⟨none, 0, 0, rfl, by decide, fun i hi => by omega, fin⟩
  · have h' : (Value.cells (.slice A len cap)).toList = [.slice (some a) len' cap'] := h
    simp [hcs] at h'
    obtain ⟨rfl, rfl, rfl⟩ := h'
    refine ⟨some a, len, cap, rfl, by omega, fun i hil => ⟨a, rfl, ?_, hi i hil⟩, fin⟩
    obtain ⟨_, _, _, _, _, _, _, _, hc, _⟩ := hi i hil
    have hb := World.block_lt_of_cell? _ _ hc
    rwa [block_add] at hb
end Go.Proofs.YtldmbneckcjonaaDoor
