/- Several texts in one: Plain: what a NaN decides. No program in sight; each lemma states its own conditions. · soft.bad, soft.nans. · soft.Do: by its table. · What an operation's boxes hold: its record, its result not laid yet; kept over calls. · What a block of a number's seven cells holds; kept over calls, draws, new blocks and stores. -/
import Derived.Below
import Derived.Lib.Hide
import Derived.Deep.RegionHeld3
import Derived.Deep.Cut
import Derived.Deep.DeepCutAuto
import Derived.LaidMore
import Derived.Test.YtldmbneckcjonabDoorGC
import Derived.Test.YtldmbneckcjonabDoorSmall
set_option linter.unusedVariables false
set_option linter.unusedSimpArgs false
namespace Go.Proofs.YtldmbneckcjonabDoor
/-- The i-th of three. -/
def opnd (a b c i : Nat) : Nat := if i = 0 then a else if i = 1 then b else c
/-- Of the first i: is there a NaN? -/
def nanS (a b c : Nat) : Nat → Bool
  | 0 => false
  | i + 1 => nanS a b c i || decide (4 ≤ kindN (opnd a b c i))
/-- The first one, made quiet. -/
def nanB (a b c : Nat) : Nat → Nat
  | 0 => 0
  | i + 1 => if nanS a b c i = false ∧ 4 ≤ kindN (opnd a b c i) then quietN (opnd a b c i) else nanB a b c i
/-- The flags. -/
def nanF (a b c : Nat) : Nat → Nat
  | 0 => 0
  | i + 1 => if kindN (opnd a b c i) = 5 then 16 else nanF a b c i
theorem nanF_or (a b c : Nat) : ∀ i, nanF a b c i = 0 ∨ nanF a b c i = 16
  | 0 => .inl rfl
  | i + 1 => by unfold nanF; split; exact .inr rfl; exact nanF_or a b c i
theorem nanS_no {a b c : Nat} : ∀ {i}, nanS a b c i = false → nanB a b c i = 0 ∧ nanF a b c i = 0
  | 0, _ => ⟨rfl, rfl⟩
  | i + 1, h => by
    unfold nanS at h
    rw [Bool.or_eq_false_iff, decide_eq_false_iff_not] at h
    obtain ⟨h1, h2⟩ := h
    have := nanS_no (i := i) h1
    unfold nanB nanF
    rw [if_neg (by omega), if_neg (by omega)]
    exact this
/-- Whether a NaN decides it; the bits; the flags. -/
@[irreducible] def nanR (op a b c n : Nat) : Bool × Nat × Nat :=
  if nanS a b c n = false then (false, 0, 0)
  else if op = 5 ∧ kindN c = 4 ∧ ((kindN a = 0 ∧ kindN b = 3) ∨ (kindN a = 3 ∧ kindN b = 0)) then (true, 9221120237041090560, 16)
  else if op = 9 ∧ nanF a b c n = 0 ∧ (kindN a = 3 ∨ kindN b = 3) then (true, 9218868437227405312, 0)
  else (true, nanB a b c n, nanF a b c n)
theorem nanR_no {op a b c n : Nat} (h : nanS a b c n = false) : nanR op a b c n = (false, 0, 0) := by unfold nanR; rw [if_pos h]
theorem nanR_some {op a b c n : Nat} (h : nanS a b c n = true) : (nanR op a b c n).1 = true := by
  unfold nanR; rw [if_neg (by rw [h]; decide)]; split; rfl; split; rfl; rfl
/-- Operands that matter. -/
def nOps (op : Nat) : Nat := if op = 5 then 3 else if op = 6 ∨ op = 7 ∨ op = 8 then 1 else if op = 10 then 0 else 2
theorem nOps_le (op : Nat) : nOps op ≤ 3 := by unfold nOps; split; omega; split; omega; split <;> omega
theorem opnd_u {a b c i : Nat} (ua : U64 a) (ub : U64 b) (uc : U64 c) : U64 (opnd a b c i) := by unfold opnd; split; exact ua; split; exact ub; exact uc
end Go.Proofs.YtldmbneckcjonabDoor
namespace Go.Proofs.YtldmbneckcjonabDoor
open Go.RowKit
/-- A record, a result of the program, as values. -/
abbrev REC (op md a b c : Nat) : Value := .agg #[.int .u8 op, .int .u8 md, .int .u64 a, .int .u64 b, .int .u64 c]
abbrev RES1 (b f : Nat) (bad : Bool) : Value := .agg #[.int .u64 b, .int .u8 f, .bool bad]
set_option maxRecDepth 100000 in
set_option maxHeartbeats 400000 in
theorem bad_any (w : World) : Calls Tryd.prog 16 #[] w fun e w' => e = .returned (RES1 9221120237041090560 16 false) ∧ Below w.heap.size w w' := by
  go_enter Tryd.func16, Tryd.ntmps16
  go_wp2_with fail
  refine bodyPost_ret (v := RES1 9221120237041090560 16 false) (by simp [results, Tryd.results16, go_sem]) rfl ⟨rfl, ?_⟩
  repeat' (first | with_reducible exact Below.refl _ _ | with_reducible assumption | with_reducible refine Below.drew ?_ | with_reducible refine bdrewN ?_ _ | with_reducible refine Below.alloc ?_ ?_ _ | with_reducible refine Below.setCell ?_ ?_ _ | with_reducible refine Below.trans ?_ (Below.mono (by assumption) ?_) | omega | (simp; done) | (simp; omega))
/-- What nans' boxes hold in its loop. -/
def NanSt (w : World) (op md a b c n : Nat) (bt fl : Nat) (wr : World) : Prop :=
  (wr.cell? ⟨w.heap.size, 0, none⟩ = some (.int .u8 op) ∧ wr.cell? ⟨w.heap.size, 1, none⟩ = some (.int .u8 md) ∧ wr.cell? ⟨w.heap.size, 2, none⟩ = some (.int .u64 a) ∧ wr.cell? ⟨w.heap.size, 3, none⟩ = some (.int .u64 b) ∧ wr.cell? ⟨w.heap.size, 4, none⟩ = some (.int .u64 c)) ∧
  (wr.cell? ⟨w.heap.size + 1, 0, none⟩ = some (.int .u64 0) ∧ wr.cell? ⟨w.heap.size + 1, 1, none⟩ = some (.int .u8 0) ∧ wr.cell? ⟨w.heap.size + 1, 2, none⟩ = some (.bool false)) ∧
  (wr.frozen? ⟨w.heap.size + 1, 0, none⟩ = false ∧ wr.frozen? ⟨w.heap.size + 1, 1, none⟩ = false ∧ wr.frozen? ⟨w.heap.size + 1, 2, none⟩ = false) ∧
  (∀ i, i < n → wr.cell? ⟨w.heap.size + 1 + 1, i, none⟩ = some (.int .u64 (opnd a b c i))) ∧
  (wr.cell? ⟨w.heap.size + 1 + 1 + 1, 0, none⟩ = some (.int .u64 bt) ∧ wr.cell? ⟨w.heap.size + 1 + 1 + 1, 1, none⟩ = some (.int .u8 fl) ∧ wr.cell? ⟨w.heap.size + 1 + 1 + 1, 2, none⟩ = some (.bool false)) ∧
  (wr.frozen? ⟨w.heap.size + 1 + 1 + 1, 0, none⟩ = false ∧ wr.frozen? ⟨w.heap.size + 1 + 1 + 1, 1, none⟩ = false) ∧
  Below w.heap.size w wr ∧ wr.heap.size = w.heap.size + 4
theorem slice3_0 (g : Nat) (w : World) : (Instr.sliceAt 48 (.pointer (some ⟨g, 0, none⟩)) none (some (.int .i64 ((0 : Nat) : Int))) none).run Tryd.prog w = .ok (.slice (some ⟨g, 0, none⟩) 0 3) w := by kernel_rfl
theorem slice3_1 (g : Nat) (w : World) : (Instr.sliceAt 48 (.pointer (some ⟨g, 0, none⟩)) none (some (.int .i64 ((1 : Nat) : Int))) none).run Tryd.prog w = .ok (.slice (some ⟨g, 0, none⟩) 1 3) w := by kernel_rfl
theorem slice3_2 (g : Nat) (w : World) : (Instr.sliceAt 48 (.pointer (some ⟨g, 0, none⟩)) none (some (.int .i64 ((2 : Nat) : Int))) none).run Tryd.prog w = .ok (.slice (some ⟨g, 0, none⟩) 2 3) w := by kernel_rfl
theorem slice3_3 (g : Nat) (w : World) : (Instr.sliceAt 48 (.pointer (some ⟨g, 0, none⟩)) none (some (.int .i64 ((3 : Nat) : Int))) none).run Tryd.prog w = .ok (.slice (some ⟨g, 0, none⟩) 3 3) w := by kernel_rfl
theorem slice3 (g n : Nat) (hn : n ≤ 3) (w : World) : (Instr.sliceAt 48 (.pointer (some ⟨g, 0, none⟩)) none (some (.int .i64 (n : Int))) none).run Tryd.prog w = .ok (.slice (some ⟨g, 0, none⟩) n 3) w := by
  have h : n = 0 ∨ n = 1 ∨ n = 2 ∨ n = 3 := by omega
  rcases h with rfl | rfl | rfl | rfl
  · exact slice3_0 g w
  · exact slice3_1 g w
  · exact slice3_2 g w
  · exact slice3_3 g w
section
variable {w wr : World} {op md a b c n bt fl : Nat}
theorem NanSt.setB (h : NanSt w op md a b c n bt fl wr) (v : Nat) : NanSt w op md a b c n v fl (wr.setCell ⟨w.heap.size + 1 + 1 + 1, 0, none⟩ (.int .u64 v)) := by
  obtain ⟨⟨r0, r1, r2, r3, r4⟩, ⟨o0, o1, o2⟩, ⟨p0, p1, p2⟩, hx, ⟨b0, b1, b2⟩, ⟨q0, q1⟩, hB, hsz⟩ := h
  have far : ∀ (g o : Nat) (u : Value), g < w.heap.size + 1 + 1 + 1 → wr.cell? ⟨g, o, none⟩ = some u → (wr.setCell ⟨w.heap.size + 1 + 1 + 1, 0, none⟩ (.int .u64 v)).cell? ⟨g, o, none⟩ = some u := fun g o u hg hc => by
    rw [World.cell?_setCell_other _ _ _ _ (fun e => by injection e with e _; omega)]; exact hc
  have near : ∀ (o : Nat) (u : Value), o ≠ 0 → wr.cell? ⟨w.heap.size + 1 + 1 + 1, o, none⟩ = some u → (wr.setCell ⟨w.heap.size + 1 + 1 + 1, 0, none⟩ (.int .u64 v)).cell? ⟨w.heap.size + 1 + 1 + 1, o, none⟩ = some u := fun o u ho hc => by
    rw [World.cell?_setCell_other _ _ _ _ (fun e => by injection e with _ e _; omega)]; exact hc
  refine ⟨⟨far _ _ _ (by omega) r0, far _ _ _ (by omega) r1, far _ _ _ (by omega) r2, far _ _ _ (by omega) r3, far _ _ _ (by omega) r4⟩, ⟨far _ _ _ (by omega) o0, far _ _ _ (by omega) o1, far _ _ _ (by omega) o2⟩, ⟨by simpa using p0, by simpa using p1, by simpa using p2⟩, fun i hi => far _ _ _ (by omega) (hx i hi), ⟨World.cell?_setCell_same _ _ _ b0, near _ _ (by omega) b1, near _ _ (by omega) b2⟩, ⟨by simpa using q0, by simpa using q1⟩, hB.setCell (p := ⟨_, _, _⟩) (by show w.heap.size ≤ w.heap.size + 1 + 1 + 1; omega) _, by simpa using hsz⟩
theorem NanSt.setF (h : NanSt w op md a b c n bt fl wr) (v : Nat) : NanSt w op md a b c n bt v (wr.setCell ⟨w.heap.size + 1 + 1 + 1, 1, none⟩ (.int .u8 v)) := by
  obtain ⟨⟨r0, r1, r2, r3, r4⟩, ⟨o0, o1, o2⟩, ⟨p0, p1, p2⟩, hx, ⟨b0, b1, b2⟩, ⟨q0, q1⟩, hB, hsz⟩ := h
  have far : ∀ (g o : Nat) (u : Value), g < w.heap.size + 1 + 1 + 1 → wr.cell? ⟨g, o, none⟩ = some u → (wr.setCell ⟨w.heap.size + 1 + 1 + 1, 1, none⟩ (.int .u8 v)).cell? ⟨g, o, none⟩ = some u := fun g o u hg hc => by
    rw [World.cell?_setCell_other _ _ _ _ (fun e => by injection e with e _; omega)]; exact hc
  have near : ∀ (o : Nat) (u : Value), o ≠ 1 → wr.cell? ⟨w.heap.size + 1 + 1 + 1, o, none⟩ = some u → (wr.setCell ⟨w.heap.size + 1 + 1 + 1, 1, none⟩ (.int .u8 v)).cell? ⟨w.heap.size + 1 + 1 + 1, o, none⟩ = some u := fun o u ho hc => by
    rw [World.cell?_setCell_other _ _ _ _ (fun e => by injection e with _ e _; omega)]; exact hc
  refine ⟨⟨far _ _ _ (by omega) r0, far _ _ _ (by omega) r1, far _ _ _ (by omega) r2, far _ _ _ (by omega) r3, far _ _ _ (by omega) r4⟩, ⟨far _ _ _ (by omega) o0, far _ _ _ (by omega) o1, far _ _ _ (by omega) o2⟩, ⟨by simpa using p0, by simpa using p1, by simpa using p2⟩, fun i hi => far _ _ _ (by omega) (hx i hi), ⟨near _ _ (by omega) b0, World.cell?_setCell_same _ _ _ b1, near _ _ (by omega) b2⟩, ⟨by simpa using q0, by simpa using q1⟩, hB.setCell (p := ⟨_, _, _⟩) (by show w.heap.size ≤ w.heap.size + 1 + 1 + 1; omega) _, by simpa using hsz⟩
end
attribute [local go_sem] two_run
set_option maxRecDepth 100000 in
set_option maxHeartbeats 1000000 in
theorem nans_any (op md a b c n : Nat) (hn : n ≤ 3) (ua : U64 a) (ub : U64 b) (uc : U64 c) (w : World) :
    Calls Tryd.prog 14 #[REC op md a b c, .int .i64 n] w fun e w' => e = .returned (.tuple #[RES1 (nanR op a b c n).2.1 (nanR op a b c n).2.2 false, .bool (nanR op a b c n).1]) ∧ Below w.heap.size w w' := by
  have hsl := fun g (W : World) => slice3 g n hn W
  obtain ⟨R, hR0⟩ : ∃ R, nanR op a b c n = R := ⟨_, rfl⟩
  rw [hR0]
  replace hR0 := Lib.hid hR0
  go_enter Tryd.func14, Tryd.ntmps14
  go_wp2
  clear hsl
  go_loopw [8, 10, 11, 23] (fun s _ _ i wr => ∃ k : Nat, i = .int .i64 k ∧ k ≤ n ∧ s = .bool (nanS a b c k) ∧ NanSt w op md a b c n (nanB a b c k) (nanF a b c k) wr) (fun _ _ _ i _ => n - (intOf i).toNat)
  case atStart =>
    refine ⟨0, rfl, Nat.zero_le _, rfl, ?_, ?_, ?_, ?_, ?_, ?_, ?_, ?_⟩
    · refine ⟨?_, ?_, ?_, ?_, ?_⟩ <;> (go_simp; done)
    · refine ⟨?_, ?_, ?_⟩ <;> (go_simp; done)
    · refine ⟨?_, ?_, ?_⟩ <;> (go_simp; done)
    · intro i hi
      have h3 : i = 0 ∨ i = 1 ∨ i = 2 := by omega
      rcases h3 with rfl | rfl | rfl <;> (unfold opnd; go_simp; done)
    · refine ⟨?_, ?_, ?_⟩ <;> (show _ = _; go_simp; try rfl)
    · refine ⟨?_, ?_⟩ <;> (go_simp; done)
    · repeat' (first | with_reducible exact Below.refl _ _ | with_reducible assumption | with_reducible refine Below.drew ?_ | with_reducible refine bdrewN ?_ _ | with_reducible refine Below.alloc ?_ ?_ _ | with_reducible refine Below.setCell ?_ ?_ _ | with_reducible refine Below.trans ?_ (Below.mono (by assumption) ?_) | omega | (simp; done) | (simp; omega))
    · simp
  case round =>
    obtain ⟨k, rfl, hk, rfl, hst⟩ := hrel
    have hst' := hst
    obtain ⟨⟨r0, r1, r2, r3, r4⟩, ⟨o0, o1, o2⟩, ⟨p0, p1, p2⟩, hx, ⟨b0, b1, b2⟩, ⟨q0, q1⟩, hB, hsz⟩ := hst'
    by_cases hkn : k < n
    · have hxk := hx k hkn
      have ux := opnd_u (i := k) ua ub uc
      have hor := quiet_or ux
      have sS : nanS a b c (k + 1) = (nanS a b c k || decide (4 ≤ kindN (opnd a b c k))) := rfl
      have sB : nanB a b c (k + 1) = if nanS a b c k = false ∧ 4 ≤ kindN (opnd a b c k) then quietN (opnd a b c k) else nanB a b c k := rfl
      have sF : nanF a b c (k + 1) = if kindN (opnd a b c k) = 5 then 16 else nanF a b c k := rfl
      have KC := Lib.hid (fun W => kindOf_any (opnd a b c k) W)
      have h6 := kindN_lt (opnd a b c k)
      have rel : ∀ wr', NanSt w op md a b c n (nanB a b c (k + 1)) (nanF a b c (k + 1)) wr' → ∀ s, s = nanS a b c (k + 1) → ∃ k' : Nat, Value.int .i64 ((k : Int) + 1) = .int .i64 k' ∧ k' ≤ n ∧ Value.bool s = .bool (nanS a b c k') ∧ NanSt w op md a b c n (nanB a b c k') (nanF a b c k') wr' := fun wr' h s hs => ⟨k + 1, rfl, hkn, by rw [hs], h⟩
      rw [sS, sB, sF] at rel
      replace rel := Lib.hid rel
      clear sS sB sF hx ux ua ub uc
      generalize nanS a b c k = s at *
      generalize nanB a b c k = bt at *
      generalize nanF a b c k = fl at *
      generalize opnd a b c k = x at *
      generalize kindN x = K at *
      have hcs : K < 4 ∨ K = 4 ∨ K = 5 := by omega
      rcases hcs with h4 | rfl | rfl
      · rw [if_neg (by omega), if_neg (by omega), show decide (4 ≤ K) = false from decide_eq_false (by omega)] at rel
        have h4a : decide ((4 : Int) ≤ K) = false := decide_eq_false (by omega)
        have h4b : ((K : Int) == 5) = false := by rw [beq_eq_false_iff_ne]; omega
        go_wp2_with (go_at_call 15; refine (KC.out _).mono ?_; rintro e w' ⟨rfl, rfl⟩)
        go_roundw
        case rel => exact rel.out _ hst _ (by rw [Bool.or_false])
        case measure => simp [intOf]; omega
      · rw [if_neg (show ¬ 4 = 5 by decide)] at rel
        cases s
        · rw [if_pos ⟨rfl, Nat.le_refl _⟩] at rel
          go_wp2_with (go_at_call 15; refine (KC.out _).mono ?_; rintro e w' ⟨rfl, rfl⟩)
          go_roundw
          case rel => exact rel.out _ (hst.setB _) _ (by simp)
          case measure => simp [intOf]; omega
        · rw [if_neg (by simp)] at rel
          go_wp2_with (go_at_call 15; refine (KC.out _).mono ?_; rintro e w' ⟨rfl, rfl⟩)
          go_roundw
          case rel => exact rel.out _ hst _ (by simp)
          case measure => simp [intOf]; omega
      · rw [if_pos rfl] at rel
        cases s
        · rw [if_pos ⟨rfl, by decide⟩] at rel
          go_wp2_with (go_at_call 15; refine (KC.out _).mono ?_; rintro e w' ⟨rfl, rfl⟩)
          go_roundw
          case rel => exact rel.out _ ((hst.setB _).setF 16) _ (by simp)
          case measure => simp [intOf]; omega
        · rw [if_neg (by simp)] at rel
          go_wp2_with (go_at_call 15; refine (KC.out _).mono ?_; rintro e w' ⟨rfl, rfl⟩)
          go_roundw
          case rel => exact rel.out _ (hst.setF 16) _ (by simp)
          case measure => simp [intOf]; omega
    · obtain rfl : k = n := by omega
      clear hkn hk hx
      by_cases hS : nanS a b c k = false
      · have hR := nanR_no (op := op) hS
        rw [hR0.out] at hR
        subst hR
        rw [hS]
        obtain ⟨z1, z2⟩ := nanS_no hS
        rw [z1] at b0
        rw [z2] at b1
        clear hst hS hR0
        go_wp2_with fail
        refine bodyPost_ret (v := .tuple #[RES1 0 0 false, .bool false]) (by simp [results, Tryd.results14, go_sem, *]) rfl ⟨rfl, ?_⟩
        repeat' (first | with_reducible exact Below.refl _ _ | with_reducible assumption | with_reducible refine Below.drew ?_ | with_reducible refine bdrewN ?_ _ | with_reducible refine Below.alloc ?_ ?_ _ | with_reducible refine Below.setCell ?_ ?_ _ | with_reducible refine Below.trans ?_ (Below.mono (by assumption) ?_) | omega | (simp; done) | (simp; omega))
      · rw [Bool.not_eq_false] at hS
        have hR : R = (if op = 5 ∧ kindN c = 4 ∧ ((kindN a = 0 ∧ kindN b = 3) ∨ (kindN a = 3 ∧ kindN b = 0)) then (true, 9221120237041090560, 16)
            else if op = 9 ∧ nanF a b c k = 0 ∧ (kindN a = 3 ∨ kindN b = 3) then (true, 9218868437227405312, 0) else (true, nanB a b c k, nanF a b c k)) := by rw [← hR0.out]; unfold nanR; rw [if_neg (by rw [hS]; decide)]
        replace hR := Lib.hid hR
        clear hR0
        rw [hS]
        generalize nanB a b c k = bt at *
        generalize nanF a b c k = fl at *
        have Ka := Lib.hid (fun W => kindOf_any a W)
        have Kb := Lib.hid (fun W => kindOf_any b W)
        have Kc := Lib.hid (fun W => kindOf_any c W)
        generalize kindN a = ka at *
        generalize kindN b = kb at *
        generalize kindN c = kc at *
        clear hst hS ua ub uc
        go_upto_region 16 with (fail)
        go_cut [12] (fun s wx => s = .pointer (some ⟨w.heap.size + 4, 0, none⟩) ∧ (wr.alloc (.cells #[.int .i64 ka, .int .i64 kb] 53)).drew = wx)
        case first =>
          go_region_held3 (fun w' => (w'.cell? ⟨w.heap.size, 2, none⟩ = some (.int .u64 a) ∧ w'.cell? ⟨w.heap.size, 3, none⟩ = some (.int .u64 b)))
            (first
              | exact ⟨r2, r3⟩
              | go_keep)
            (first
              | (go_at_call_of 15 (Value.int IntKind.u64 a); refine (Ka.out _).mono ?_; rintro e w' ⟨rfl, rfl⟩)
              | (go_at_call_of 15 (Value.int IntKind.u64 b); refine (Kb.out _).mono ?_; rintro e w' ⟨rfl, rfl⟩))
          all_goals (go_wp2_with fail; go_meet; exact ⟨rfl, rfl⟩)
        case rest =>
          obtain ⟨rfl, rfl⟩ := hcut
          by_cases h5 : op = 5
          · subst h5
            by_cases hc4 : kc = 4
            · subst hc4
              by_cases ha : ka = 0 ∧ kb = 3
              · obtain ⟨rfl, rfl⟩ := ha
                obtain rfl : R = (true, 9221120237041090560, 16) := by rw [hR.out]; simp
                clear hR
                go_wp2_with (first | (go_at_call 15; refine (Kc.out _).mono ?_; rintro e w' ⟨rfl, rfl⟩) | (go_at_call 16; refine (bad_any _).mono ?_; rintro e w1 ⟨rfl, hb1⟩; obtain ⟨hc_, hf_⟩ := bcell1 hb1))
                all_goals refine bodyPost_ret (v := .tuple #[RES1 9221120237041090560 16 false, .bool true]) (by simp [results, Tryd.results14, go_sem, *]) rfl ⟨rfl, ?_⟩
                repeat' (first | with_reducible exact Below.refl _ _ | with_reducible assumption | with_reducible refine Below.drew ?_ | with_reducible refine bdrewN ?_ _ | with_reducible refine Below.alloc ?_ ?_ _ | with_reducible refine Below.setCell ?_ ?_ _ | with_reducible refine Below.trans ?_ (Below.mono (by assumption) ?_) | omega | (simp; done) | (simp; omega))
              · by_cases hb : ka = 3 ∧ kb = 0
                · obtain ⟨rfl, rfl⟩ := hb
                  obtain rfl : R = (true, 9221120237041090560, 16) := by rw [hR.out]; simp
                  clear hR
                  go_wp2_with (first | (go_at_call 15; refine (Kc.out _).mono ?_; rintro e w' ⟨rfl, rfl⟩) | (go_at_call 16; refine (bad_any _).mono ?_; rintro e w1 ⟨rfl, hb1⟩; obtain ⟨hc_, hf_⟩ := bcell1 hb1))
                  all_goals refine bodyPost_ret (v := .tuple #[RES1 9221120237041090560 16 false, .bool true]) (by simp [results, Tryd.results14, go_sem, *]) rfl ⟨rfl, ?_⟩
                  repeat' (first | with_reducible exact Below.refl _ _ | with_reducible assumption | with_reducible refine Below.drew ?_ | with_reducible refine bdrewN ?_ _ | with_reducible refine Below.alloc ?_ ?_ _ | with_reducible refine Below.setCell ?_ ?_ _ | with_reducible refine Below.trans ?_ (Below.mono (by assumption) ?_) | omega | (simp; done) | (simp; omega))
                · have f1 : ((ka : Int) == 0 && (kb : Int) == 3) = false := by rw [Bool.and_eq_false_iff, beq_eq_false_iff_ne, beq_eq_false_iff_ne]; omega
                  have f2 : ((ka : Int) == 3 && (kb : Int) == 0) = false := by rw [Bool.and_eq_false_iff, beq_eq_false_iff_ne, beq_eq_false_iff_ne]; omega
                  obtain rfl : R = (true, bt, fl) := by rw [hR.out]; rw [if_neg (by omega), if_neg (by omega)]
                  clear hR
                  go_wp2_with (first | (go_at_call 15; refine (Kc.out _).mono ?_; rintro e w' ⟨rfl, rfl⟩) | (go_at_call 16; refine (bad_any _).mono ?_; rintro e w1 ⟨rfl, hb1⟩; obtain ⟨hc_, hf_⟩ := bcell1 hb1))
                  all_goals refine bodyPost_ret (v := .tuple #[RES1 bt fl false, .bool true]) (by simp [results, Tryd.results14, go_sem, *]) rfl ⟨rfl, ?_⟩
                  repeat' (first | with_reducible exact Below.refl _ _ | with_reducible assumption | with_reducible refine Below.drew ?_ | with_reducible refine bdrewN ?_ _ | with_reducible refine Below.alloc ?_ ?_ _ | with_reducible refine Below.setCell ?_ ?_ _ | with_reducible refine Below.trans ?_ (Below.mono (by assumption) ?_) | omega | (simp; done) | (simp; omega))
            · have f1 : ((kc : Int) == 4) = false := by rw [beq_eq_false_iff_ne]; omega
              obtain rfl : R = (true, bt, fl) := by rw [hR.out]; rw [if_neg (by omega), if_neg (by omega)]
              clear hR
              go_wp2_with (first | (go_at_call 15; refine (Kc.out _).mono ?_; rintro e w' ⟨rfl, rfl⟩) | (go_at_call 16; refine (bad_any _).mono ?_; rintro e w1 ⟨rfl, hb1⟩; obtain ⟨hc_, hf_⟩ := bcell1 hb1))
              all_goals refine bodyPost_ret (v := .tuple #[RES1 bt fl false, .bool true]) (by simp [results, Tryd.results14, go_sem, *]) rfl ⟨rfl, ?_⟩
              repeat' (first | with_reducible exact Below.refl _ _ | with_reducible assumption | with_reducible refine Below.drew ?_ | with_reducible refine bdrewN ?_ _ | with_reducible refine Below.alloc ?_ ?_ _ | with_reducible refine Below.setCell ?_ ?_ _ | with_reducible refine Below.trans ?_ (Below.mono (by assumption) ?_) | omega | (simp; done) | (simp; omega))
          · have f5 : ((op : Int) == 5) = false := by rw [beq_eq_false_iff_ne]; omega
            by_cases h9 : op = 9
            · subst h9
              by_cases hf0 : fl = 0
              · subst hf0
                by_cases ha : ka = 3
                · subst ha
                  obtain rfl : R = (true, 9218868437227405312, 0) := by rw [hR.out]; simp
                  clear hR
                  go_wp2_with (first | (go_at_call 15; refine (Kc.out _).mono ?_; rintro e w' ⟨rfl, rfl⟩) | (go_at_call 16; refine (bad_any _).mono ?_; rintro e w1 ⟨rfl, hb1⟩; obtain ⟨hc_, hf_⟩ := bcell1 hb1))
                  all_goals refine bodyPost_ret (v := .tuple #[RES1 9218868437227405312 0 false, .bool true]) (by simp [results, Tryd.results14, go_sem, *]) rfl ⟨rfl, ?_⟩
                  repeat' (first | with_reducible exact Below.refl _ _ | with_reducible assumption | with_reducible refine Below.drew ?_ | with_reducible refine bdrewN ?_ _ | with_reducible refine Below.alloc ?_ ?_ _ | with_reducible refine Below.setCell ?_ ?_ _ | with_reducible refine Below.trans ?_ (Below.mono (by assumption) ?_) | omega | (simp; done) | (simp; omega))
                · have f1 : ((ka : Int) == 3) = false := by rw [beq_eq_false_iff_ne]; omega
                  by_cases hb : kb = 3
                  · subst hb
                    obtain rfl : R = (true, 9218868437227405312, 0) := by rw [hR.out]; simp
                    clear hR
                    go_wp2_with (first | (go_at_call 15; refine (Kc.out _).mono ?_; rintro e w' ⟨rfl, rfl⟩) | (go_at_call 16; refine (bad_any _).mono ?_; rintro e w1 ⟨rfl, hb1⟩; obtain ⟨hc_, hf_⟩ := bcell1 hb1))
                    all_goals refine bodyPost_ret (v := .tuple #[RES1 9218868437227405312 0 false, .bool true]) (by simp [results, Tryd.results14, go_sem, *]) rfl ⟨rfl, ?_⟩
                    repeat' (first | with_reducible exact Below.refl _ _ | with_reducible assumption | with_reducible refine Below.drew ?_ | with_reducible refine bdrewN ?_ _ | with_reducible refine Below.alloc ?_ ?_ _ | with_reducible refine Below.setCell ?_ ?_ _ | with_reducible refine Below.trans ?_ (Below.mono (by assumption) ?_) | omega | (simp; done) | (simp; omega))
                  · have f2 : ((kb : Int) == 3) = false := by rw [beq_eq_false_iff_ne]; omega
                    obtain rfl : R = (true, bt, 0) := by rw [hR.out]; rw [if_neg (by omega), if_neg (by omega)]
                    clear hR
                    go_wp2_with (first | (go_at_call 15; refine (Kc.out _).mono ?_; rintro e w' ⟨rfl, rfl⟩) | (go_at_call 16; refine (bad_any _).mono ?_; rintro e w1 ⟨rfl, hb1⟩; obtain ⟨hc_, hf_⟩ := bcell1 hb1))
                    all_goals refine bodyPost_ret (v := .tuple #[RES1 bt 0 false, .bool true]) (by simp [results, Tryd.results14, go_sem, *]) rfl ⟨rfl, ?_⟩
                    repeat' (first | with_reducible exact Below.refl _ _ | with_reducible assumption | with_reducible refine Below.drew ?_ | with_reducible refine bdrewN ?_ _ | with_reducible refine Below.alloc ?_ ?_ _ | with_reducible refine Below.setCell ?_ ?_ _ | with_reducible refine Below.trans ?_ (Below.mono (by assumption) ?_) | omega | (simp; done) | (simp; omega))
              · have f1 : ((fl : Int) == 0) = false := by rw [beq_eq_false_iff_ne]; omega
                obtain rfl : R = (true, bt, fl) := by rw [hR.out]; rw [if_neg (by omega), if_neg (by omega)]
                clear hR
                go_wp2_with (first | (go_at_call 15; refine (Kc.out _).mono ?_; rintro e w' ⟨rfl, rfl⟩) | (go_at_call 16; refine (bad_any _).mono ?_; rintro e w1 ⟨rfl, hb1⟩; obtain ⟨hc_, hf_⟩ := bcell1 hb1))
                all_goals refine bodyPost_ret (v := .tuple #[RES1 bt fl false, .bool true]) (by simp [results, Tryd.results14, go_sem, *]) rfl ⟨rfl, ?_⟩
                repeat' (first | with_reducible exact Below.refl _ _ | with_reducible assumption | with_reducible refine Below.drew ?_ | with_reducible refine bdrewN ?_ _ | with_reducible refine Below.alloc ?_ ?_ _ | with_reducible refine Below.setCell ?_ ?_ _ | with_reducible refine Below.trans ?_ (Below.mono (by assumption) ?_) | omega | (simp; done) | (simp; omega))
            · have f9 : ((op : Int) == 9) = false := by rw [beq_eq_false_iff_ne]; omega
              obtain rfl : R = (true, bt, fl) := by rw [hR.out]; rw [if_neg (by omega), if_neg (by omega)]
              clear hR
              go_wp2_with (first | (go_at_call 15; refine (Kc.out _).mono ?_; rintro e w' ⟨rfl, rfl⟩) | (go_at_call 16; refine (bad_any _).mono ?_; rintro e w1 ⟨rfl, hb1⟩; obtain ⟨hc_, hf_⟩ := bcell1 hb1))
              all_goals refine bodyPost_ret (v := .tuple #[RES1 bt fl false, .bool true]) (by simp [results, Tryd.results14, go_sem, *]) rfl ⟨rfl, ?_⟩
              repeat' (first | with_reducible exact Below.refl _ _ | with_reducible assumption | with_reducible refine Below.drew ?_ | with_reducible refine bdrewN ?_ _ | with_reducible refine Below.alloc ?_ ?_ _ | with_reducible refine Below.setCell ?_ ?_ _ | with_reducible refine Below.trans ?_ (Below.mono (by assumption) ?_) | omega | (simp; done) | (simp; omega))
end Go.Proofs.YtldmbneckcjonabDoor
namespace Go.Proofs.YtldmbneckcjonabDoor
open Go.RowKit
/-- The table's function of an operation. -/
def fnOf (op : Nat) : FuncId := if op = 1 then 33 else if op = 2 then 34 else if op = 3 then 35 else if op = 4 then 36 else if op = 5 then 37 else if op = 6 then 38 else if op = 7 then 39 else if op = 8 then 40 else if op = 9 then 41 else 42
def TableAt (w : World) : Prop := ∀ op, 1 ≤ op → op ≤ 10 → w.cell? ⟨0, op * 2, none⟩ = some (.int .i64 (nOps op)) ∧ w.cell? ⟨0, op * 2 + 1, none⟩ = some (.func (.func (fnOf op)) #[] #[])
theorem TableAt.below {w w' : World} {B : Nat} (h : TableAt w) (hB : w.heap.size ≤ B) (hb : Below B w w') : TableAt w' := fun op h1 h2 => by
  obtain ⟨a, b⟩ := h op h1 h2
  have hl := World.block_lt_of_cell? _ _ a
  exact ⟨by rw [hb.cell (p := ⟨0, _, none⟩) (by simp at hl ⊢; omega)]; exact a, by rw [hb.cell (p := ⟨0, _, none⟩) (by simp at hl ⊢; omega)]; exact b⟩
theorem store_func (P : Program) (w : World) (a : Addr) (m : Mode) (fn : Fn) (first captured : Array Value) : (store a (.func fn first captured) m).run P w = stored P w a (.func fn first captured) m := run_store P w a _ m rfl
attribute [local go_sem] store_func
def SoftOut (b f : Nat) (bad : Bool) (w : World) (e : Ending) (w' : World) : Prop := e = .returned (RES1 b f bad) ∧ Below w.heap.size w w'
set_option maxRecDepth 100000 in
set_option maxHeartbeats 400000 in
theorem Do_zero (op md a b c : Nat) (h : ((op : Int) == 0) = true) (w : World) : Calls Tryd.prog 9 #[REC op md a b c] w (SoftOut 0 0 true w) := by
  go_enter Tryd.func9, Tryd.ntmps9
  go_wp2_with fail
  refine bodyPost_ret (v := RES1 0 0 true) (by simp [results, Tryd.results9, go_sem, *]) rfl ⟨rfl, ?_⟩
  repeat' (first | with_reducible exact Below.refl _ _ | with_reducible assumption | with_reducible refine Below.drew ?_ | with_reducible refine bdrewN ?_ _ | with_reducible refine Below.alloc ?_ ?_ _ | with_reducible refine Below.setCell ?_ ?_ _ | with_reducible refine Below.trans ?_ (Below.mono (by assumption) ?_) | omega | (simp; done) | (simp; omega))
set_option maxRecDepth 100000 in
set_option maxHeartbeats 400000 in
theorem Do_many (op md a b c : Nat) (h : 11 ≤ op) (hop : op < 256) (w : World) : Calls Tryd.prog 9 #[REC op md a b c] w (SoftOut 0 0 true w) := by
  have f1 : ((op : Int) == 0) = false := by rw [beq_eq_false_iff_ne]; omega
  have f2 : decide ((11 : Int) ≤ op) = true := decide_eq_true (by omega)
  go_enter Tryd.func9, Tryd.ntmps9
  go_wp2_with fail
  refine bodyPost_ret (v := RES1 0 0 true) (by simp [results, Tryd.results9, go_sem, *]) rfl ⟨rfl, ?_⟩
  repeat' (first | with_reducible exact Below.refl _ _ | with_reducible assumption | with_reducible refine Below.drew ?_ | with_reducible refine bdrewN ?_ _ | with_reducible refine Below.alloc ?_ ?_ _ | with_reducible refine Below.setCell ?_ ?_ _ | with_reducible refine Below.trans ?_ (Below.mono (by assumption) ?_) | omega | (simp; done) | (simp; omega))
set_option maxRecDepth 100000 in
set_option maxHeartbeats 400000 in
theorem Do_mode (op md a b c : Nat) (h0 : op ≠ 0) (h1 : op < 11) (h : 5 ≤ md) (w : World) : Calls Tryd.prog 9 #[REC op md a b c] w (SoftOut 0 0 true w) := by
  have f1 : ((op : Int) == 0) = false := by rw [beq_eq_false_iff_ne]; omega
  have f2 : decide ((11 : Int) ≤ op) = false := decide_eq_false (by omega)
  have f3 : decide ((4 : Int) < md) = true := decide_eq_true (by omega)
  go_enter Tryd.func9, Tryd.ntmps9
  go_wp2_with fail
  refine bodyPost_ret (v := RES1 0 0 true) (by simp [results, Tryd.results9, go_sem, *]) rfl ⟨rfl, ?_⟩
  repeat' (first | with_reducible exact Below.refl _ _ | with_reducible assumption | with_reducible refine Below.drew ?_ | with_reducible refine bdrewN ?_ _ | with_reducible refine Below.alloc ?_ ?_ _ | with_reducible refine Below.setCell ?_ ?_ _ | with_reducible refine Below.trans ?_ (Below.mono (by assumption) ?_) | omega | (simp; done) | (simp; omega))
set_option maxRecDepth 100000 in
set_option maxHeartbeats 1000000 in
theorem Do_nan (op md a b c bt fl : Nat) (h0 : op ≠ 0) (h1 : op < 11) (h : ¬ 5 ≤ md) (ua : U64 a) (ub : U64 b) (uc : U64 c) (hR : nanR op a b c (nOps op) = (true, bt, fl)) (w : World) (hT : TableAt w) :
    Calls Tryd.prog 9 #[REC op md a b c] w (SoftOut bt fl false w) := by
  have f1 : ((op : Int) == 0) = false := by rw [beq_eq_false_iff_ne]; omega
  have f2 : decide ((11 : Int) ≤ op) = false := decide_eq_false (by omega)
  have f3 : decide ((4 : Int) < md) = false := decide_eq_false (by omega)
  obtain ⟨t0, t1⟩ := hT op (by omega) (by omega)
  have C := Lib.hid (fun W => nans_any op md a b c _ (nOps_le op) ua ub uc W)
  rw [hR] at C
  generalize nOps op = n at *
  generalize fnOf op = f at *
  have g0 := World.block_lt_of_cell? _ _ t0
  simp only at g0
  clear hR h ua ub uc hT
  go_enter Tryd.func9, Tryd.ntmps9
  go_wp2_with fail
  refine (C.out _).mono ?_
  rintro e w1 ⟨rfl, hb1⟩; have hz_w1 := (hb1).size; (try simp at hz_w1); have hl_w1_0 : w.heap.size < w1.heap.size := (by omega); have hl_w1_1 : w.heap.size + 1 < w1.heap.size := (by omega); have hl_w1_2 : w.heap.size + 1 + 1 < w1.heap.size := (by omega); have hk_w1_0_0 : w1.cell? ⟨w.heap.size + 1, 0, none⟩ = some (.int .u64 0) := (by rw [hb1.cell (p := ⟨w.heap.size + 1, 0, none⟩) (by first | omega | (simp; done) | (simp; omega))]; go_simp; done); have hg_w1_0_0 : w1.frozen? ⟨w.heap.size + 1, 0, none⟩ = false := (by rw [hb1.frozen (p := ⟨w.heap.size + 1, 0, none⟩) (by first | omega | (simp; done) | (simp; omega))]; go_simp; done); have hk_w1_0_1 : w1.cell? ⟨w.heap.size + 1, 1, none⟩ = some (.int .u8 0) := (by rw [hb1.cell (p := ⟨w.heap.size + 1, 1, none⟩) (by first | omega | (simp; done) | (simp; omega))]; go_simp; done); have hg_w1_0_1 : w1.frozen? ⟨w.heap.size + 1, 1, none⟩ = false := (by rw [hb1.frozen (p := ⟨w.heap.size + 1, 1, none⟩) (by first | omega | (simp; done) | (simp; omega))]; go_simp; done); have hk_w1_0_2 : w1.cell? ⟨w.heap.size + 1, 2, none⟩ = some (.bool false) := (by rw [hb1.cell (p := ⟨w.heap.size + 1, 2, none⟩) (by first | omega | (simp; done) | (simp; omega))]; go_simp; done); have hg_w1_0_2 : w1.frozen? ⟨w.heap.size + 1, 2, none⟩ = false := (by rw [hb1.frozen (p := ⟨w.heap.size + 1, 2, none⟩) (by first | omega | (simp; done) | (simp; omega))]; go_simp; done); have hk_w1_1_0 : w1.cell? ⟨w.heap.size, 0, none⟩ = some (.int .u8 op) := (by rw [hb1.cell (p := ⟨w.heap.size, 0, none⟩) (by first | omega | (simp; done) | (simp; omega))]; go_simp; done); have hk_w1_1_1 : w1.cell? ⟨w.heap.size, 1, none⟩ = some (.int .u8 md) := (by rw [hb1.cell (p := ⟨w.heap.size, 1, none⟩) (by first | omega | (simp; done) | (simp; omega))]; go_simp; done); have hk_w1_1_2 : w1.cell? ⟨w.heap.size, 2, none⟩ = some (.int .u64 a) := (by rw [hb1.cell (p := ⟨w.heap.size, 2, none⟩) (by first | omega | (simp; done) | (simp; omega))]; go_simp; done); have hk_w1_1_3 : w1.cell? ⟨w.heap.size, 3, none⟩ = some (.int .u64 b) := (by rw [hb1.cell (p := ⟨w.heap.size, 3, none⟩) (by first | omega | (simp; done) | (simp; omega))]; go_simp; done); have hk_w1_1_4 : w1.cell? ⟨w.heap.size, 4, none⟩ = some (.int .u64 c) := (by rw [hb1.cell (p := ⟨w.heap.size, 4, none⟩) (by first | omega | (simp; done) | (simp; omega))]; go_simp; done); have hk_w1_2_0 : w1.cell? ⟨w.heap.size + 1 + 1, 0, none⟩ = some (.int .i64 n) := (by rw [hb1.cell (p := ⟨w.heap.size + 1 + 1, 0, none⟩) (by first | omega | (simp; done) | (simp; omega))]; go_simp; done); have hk_w1_2_1 : w1.cell? ⟨w.heap.size + 1 + 1, 1, none⟩ = some (.func (.func f) #[] #[]) := (by rw [hb1.cell (p := ⟨w.heap.size + 1 + 1, 1, none⟩) (by first | omega | (simp; done) | (simp; omega))]; go_simp; done)
  go_wp2_with fail
  refine bodyPost_ret (v := RES1 bt fl false) (by simp [results, Tryd.results9, go_sem, *]) rfl ⟨rfl, ?_⟩
  repeat' (first | with_reducible exact Below.refl _ _ | with_reducible assumption | with_reducible refine Below.drew ?_ | with_reducible refine bdrewN ?_ _ | with_reducible refine Below.alloc ?_ ?_ _ | with_reducible refine Below.setCell ?_ ?_ _ | with_reducible refine Below.trans ?_ (Below.mono (by assumption) ?_) | omega | (simp; done) | (simp; omega))
set_option maxRecDepth 100000 in
set_option maxHeartbeats 1000000 in
theorem Do_go (op md a b c bt fl : Nat) (hE : ∀ (args : Array Value) (w : World), (callFunc (fnOf op) args).run Tryd.prog w = .ok (.enter (fnOf op) args) w) (h0 : op ≠ 0) (h1 : op < 11) (h : ¬ 5 ≤ md) (ua : U64 a) (ub : U64 b) (uc : U64 c) (hR : nanR op a b c (nOps op) = (false, 0, 0))
    (D : Hid (∀ W, Calls Tryd.prog (fnOf op) #[REC op md a b c] W (SoftOut bt fl false W))) (w : World) (hT : TableAt w) :
    Calls Tryd.prog 9 #[REC op md a b c] w (SoftOut bt fl false w) := by
  have f1 : ((op : Int) == 0) = false := by rw [beq_eq_false_iff_ne]; omega
  have f2 : decide ((11 : Int) ≤ op) = false := decide_eq_false (by omega)
  have f3 : decide ((4 : Int) < md) = false := decide_eq_false (by omega)
  obtain ⟨t0, t1⟩ := hT op (by omega) (by omega)
  have C := Lib.hid (fun W => nans_any op md a b c _ (nOps_le op) ua ub uc W)
  rw [hR] at C
  generalize nOps op = n at *
  generalize fnOf op = f at *
  have g0 := World.block_lt_of_cell? _ _ t0
  simp only at g0
  clear hR h ua ub uc hT
  go_enter Tryd.func9, Tryd.ntmps9
  go_wp2_with fail
  refine (C.out _).mono ?_
  rintro e w1 ⟨rfl, hb1⟩; have hz_w1 := (hb1).size; (try simp at hz_w1); have hl_w1_0 : w.heap.size < w1.heap.size := (by omega); have hl_w1_1 : w.heap.size + 1 < w1.heap.size := (by omega); have hl_w1_2 : w.heap.size + 1 + 1 < w1.heap.size := (by omega); have hk_w1_0_0 : w1.cell? ⟨w.heap.size + 1, 0, none⟩ = some (.int .u64 0) := (by rw [hb1.cell (p := ⟨w.heap.size + 1, 0, none⟩) (by first | omega | (simp; done) | (simp; omega))]; go_simp; done); have hg_w1_0_0 : w1.frozen? ⟨w.heap.size + 1, 0, none⟩ = false := (by rw [hb1.frozen (p := ⟨w.heap.size + 1, 0, none⟩) (by first | omega | (simp; done) | (simp; omega))]; go_simp; done); have hk_w1_0_1 : w1.cell? ⟨w.heap.size + 1, 1, none⟩ = some (.int .u8 0) := (by rw [hb1.cell (p := ⟨w.heap.size + 1, 1, none⟩) (by first | omega | (simp; done) | (simp; omega))]; go_simp; done); have hg_w1_0_1 : w1.frozen? ⟨w.heap.size + 1, 1, none⟩ = false := (by rw [hb1.frozen (p := ⟨w.heap.size + 1, 1, none⟩) (by first | omega | (simp; done) | (simp; omega))]; go_simp; done); have hk_w1_0_2 : w1.cell? ⟨w.heap.size + 1, 2, none⟩ = some (.bool false) := (by rw [hb1.cell (p := ⟨w.heap.size + 1, 2, none⟩) (by first | omega | (simp; done) | (simp; omega))]; go_simp; done); have hg_w1_0_2 : w1.frozen? ⟨w.heap.size + 1, 2, none⟩ = false := (by rw [hb1.frozen (p := ⟨w.heap.size + 1, 2, none⟩) (by first | omega | (simp; done) | (simp; omega))]; go_simp; done); have hk_w1_1_0 : w1.cell? ⟨w.heap.size, 0, none⟩ = some (.int .u8 op) := (by rw [hb1.cell (p := ⟨w.heap.size, 0, none⟩) (by first | omega | (simp; done) | (simp; omega))]; go_simp; done); have hk_w1_1_1 : w1.cell? ⟨w.heap.size, 1, none⟩ = some (.int .u8 md) := (by rw [hb1.cell (p := ⟨w.heap.size, 1, none⟩) (by first | omega | (simp; done) | (simp; omega))]; go_simp; done); have hk_w1_1_2 : w1.cell? ⟨w.heap.size, 2, none⟩ = some (.int .u64 a) := (by rw [hb1.cell (p := ⟨w.heap.size, 2, none⟩) (by first | omega | (simp; done) | (simp; omega))]; go_simp; done); have hk_w1_1_3 : w1.cell? ⟨w.heap.size, 3, none⟩ = some (.int .u64 b) := (by rw [hb1.cell (p := ⟨w.heap.size, 3, none⟩) (by first | omega | (simp; done) | (simp; omega))]; go_simp; done); have hk_w1_1_4 : w1.cell? ⟨w.heap.size, 4, none⟩ = some (.int .u64 c) := (by rw [hb1.cell (p := ⟨w.heap.size, 4, none⟩) (by first | omega | (simp; done) | (simp; omega))]; go_simp; done); have hk_w1_2_0 : w1.cell? ⟨w.heap.size + 1 + 1, 0, none⟩ = some (.int .i64 n) := (by rw [hb1.cell (p := ⟨w.heap.size + 1 + 1, 0, none⟩) (by first | omega | (simp; done) | (simp; omega))]; go_simp; done); have hk_w1_2_1 : w1.cell? ⟨w.heap.size + 1 + 1, 1, none⟩ = some (.func (.func f) #[] #[]) := (by rw [hb1.cell (p := ⟨w.heap.size + 1 + 1, 1, none⟩) (by first | omega | (simp; done) | (simp; omega))]; go_simp; done)
  go_wp2_with fail
  refine (D.out _).mono ?_
  rintro e w2 ⟨rfl, hb2⟩; have hz_w2 := (hb2).size; (try simp at hz_w2); have hl_w2_0 : w.heap.size < w2.heap.size := (by omega); have hl_w2_1 : w.heap.size + 1 < w2.heap.size := (by omega); have hl_w2_2 : w.heap.size + 1 + 1 < w2.heap.size := (by omega); have hk_w2_0_0 : w2.cell? ⟨w.heap.size + 1, 0, none⟩ = some (.int .u64 0) := (by rw [hb2.cell (p := ⟨w.heap.size + 1, 0, none⟩) (by first | omega | (simp; done) | (simp; omega))]; go_simp; done); have hg_w2_0_0 : w2.frozen? ⟨w.heap.size + 1, 0, none⟩ = false := (by rw [hb2.frozen (p := ⟨w.heap.size + 1, 0, none⟩) (by first | omega | (simp; done) | (simp; omega))]; go_simp; done); have hk_w2_0_1 : w2.cell? ⟨w.heap.size + 1, 1, none⟩ = some (.int .u8 0) := (by rw [hb2.cell (p := ⟨w.heap.size + 1, 1, none⟩) (by first | omega | (simp; done) | (simp; omega))]; go_simp; done); have hg_w2_0_1 : w2.frozen? ⟨w.heap.size + 1, 1, none⟩ = false := (by rw [hb2.frozen (p := ⟨w.heap.size + 1, 1, none⟩) (by first | omega | (simp; done) | (simp; omega))]; go_simp; done); have hk_w2_0_2 : w2.cell? ⟨w.heap.size + 1, 2, none⟩ = some (.bool false) := (by rw [hb2.cell (p := ⟨w.heap.size + 1, 2, none⟩) (by first | omega | (simp; done) | (simp; omega))]; go_simp; done); have hg_w2_0_2 : w2.frozen? ⟨w.heap.size + 1, 2, none⟩ = false := (by rw [hb2.frozen (p := ⟨w.heap.size + 1, 2, none⟩) (by first | omega | (simp; done) | (simp; omega))]; go_simp; done)
  go_wp2_with fail
  refine bodyPost_ret (v := RES1 bt fl false) (by simp [results, Tryd.results9, go_sem, *]) rfl ⟨rfl, ?_⟩
  repeat' (first | with_reducible exact Below.refl _ _ | with_reducible assumption | with_reducible refine Below.drew ?_ | with_reducible refine bdrewN ?_ _ | with_reducible refine Below.alloc ?_ ?_ _ | with_reducible refine Below.setCell ?_ ?_ _ | with_reducible refine Below.trans ?_ (Below.mono (by assumption) ?_) | omega | (simp; done) | (simp; omega))
set_option maxRecDepth 100000 in
set_option maxHeartbeats 400000 in
theorem clear_any (op md a b c : Nat) (w : World) : Calls Tryd.prog 42 #[REC op md a b c] w (SoftOut 0 0 false w) := by
  go_enter Tryd.func42, Tryd.ntmps42
  go_wp2_with fail
  refine bodyPost_ret (v := RES1 0 0 false) (by simp [results, Tryd.results42, go_sem, *]) rfl ⟨rfl, ?_⟩
  repeat' (first | with_reducible exact Below.refl _ _ | with_reducible assumption | with_reducible refine Below.drew ?_ | with_reducible refine bdrewN ?_ _ | with_reducible refine Below.alloc ?_ ?_ _ | with_reducible refine Below.setCell ?_ ?_ _ | with_reducible refine Below.trans ?_ (Below.mono (by assumption) ?_) | omega | (simp; done) | (simp; omega))
theorem Do_clear (md a b c : Nat) (h : ¬ 5 ≤ md) (ua : U64 a) (ub : U64 b) (uc : U64 c) (w : World) (hT : TableAt w) : Calls Tryd.prog 9 #[REC 10 md a b c] w (SoftOut 0 0 false w) :=
  Do_go 10 md a b c 0 0 (fun args w => Tryd.call42 args w) (by decide) (by decide) h ua ub uc (nanR_no rfl) (fun W => clear_any 10 md a b c W) w hT
end Go.Proofs.YtldmbneckcjonabDoor
namespace Go.Proofs.YtldmbneckcjonabDoor
open Go.RowKit
/-- Block w.heap.size: the record; the next one: the result. -/
def RB (w : World) (m a b c : Nat) (W : World) : Prop :=
  (W.cell? ⟨w.heap.size, 1, none⟩ = some (.int .u8 m) ∧ W.cell? ⟨w.heap.size, 2, none⟩ = some (.int .u64 a) ∧ W.cell? ⟨w.heap.size, 3, none⟩ = some (.int .u64 b) ∧ W.cell? ⟨w.heap.size, 4, none⟩ = some (.int .u64 c)) ∧
  (W.cell? ⟨w.heap.size + 1, 0, none⟩ = some (.int .u64 0) ∧ W.cell? ⟨w.heap.size + 1, 1, none⟩ = some (.int .u8 0) ∧ W.cell? ⟨w.heap.size + 1, 2, none⟩ = some (.bool false)) ∧
  (W.frozen? ⟨w.heap.size + 1, 0, none⟩ = false ∧ W.frozen? ⟨w.heap.size + 1, 1, none⟩ = false ∧ W.frozen? ⟨w.heap.size + 1, 2, none⟩ = false) ∧
  w.heap.size + 2 ≤ W.heap.size ∧ Below w.heap.size w W
section
variable {w W W1 : World} {m a b c : Nat}
theorem RB.step (h : RB w m a b c W) (hb : Below W.heap.size W W1) : RB w m a b c W1 := by
  obtain ⟨⟨a1, a2, a3, a4⟩, ⟨b0, b1, b2⟩, ⟨c0, c1, c2⟩, hz, hB⟩ := h
  exact ⟨⟨cell_below hb a1, cell_below hb a2, cell_below hb a3, cell_below hb a4⟩, ⟨cell_below hb b0, cell_below hb b1, cell_below hb b2⟩,
    ⟨frozen_below hb b0 c0, frozen_below hb b1 c1, frozen_below hb b2 c2⟩, Nat.le_trans hz hb.size, hB.trans (hb.mono hB.size)⟩
theorem RB.drew (h : RB w m a b c W) : RB w m a b c W.drew := by
  obtain ⟨h1, h2, h3, hz, hB⟩ := h
  exact ⟨h1, h2, h3, hz, hB.drew⟩
theorem RB.alloc (h : RB w m a b c W) (o : Obj) : RB w m a b c (W.alloc o) := h.step ((Below.refl _ W).alloc (Nat.le_refl _) o)
theorem RB.start (op : Nat) : RB w m a b c ((w.alloc (.cells #[.int .u8 op, .int .u8 m, .int .u64 a, .int .u64 b, .int .u64 c] 36)).alloc (.cells #[.int .u64 0, .int .u8 0, .bool false] 33)) := by
  refine ⟨⟨?_, ?_, ?_, ?_⟩, ⟨?_, ?_, ?_⟩, ⟨?_, ?_, ?_⟩, ?_, ((Below.refl _ w).alloc (by simp) _).alloc (by simp) _⟩
  all_goals first | (go_simp; done) | (simp; done)
/-- The result laid. -/
theorem RB.laid (h : RB w m a b c W) (x f : Nat) (bad : Bool) : Below w.heap.size w (((W.setCell ⟨w.heap.size + 1, 0, none⟩ (.int .u64 x)).setCell ⟨w.heap.size + 1, 1, none⟩ (.int .u8 f)).setCell ⟨w.heap.size + 1, 2, none⟩ (.bool bad)) :=
  ((h.2.2.2.2.setCell (p := ⟨_, _, _⟩) (by show w.heap.size ≤ w.heap.size + 1; omega) _).setCell (p := ⟨_, _, _⟩) (by show w.heap.size ≤ w.heap.size + 1; omega) _).setCell (p := ⟨_, _, _⟩) (by show w.heap.size ≤ w.heap.size + 1; omega) _
end
end Go.Proofs.YtldmbneckcjonabDoor
namespace Go.Proofs.YtldmbneckcjonabDoor
open Go.RowKit
abbrev NO (n : Bool) (e : Int) (s : Nat) (l : Bool) : Obj := .cells #[.bool n, .int .i64 e, .int .u64 (wd 0 s), .int .u64 (wd 1 s), .int .u64 (wd 2 s), .int .u64 (wd 3 s), .bool l] 77
/-- Block g holds the number. -/
def NB (W : World) (g : Nat) (n : Bool) (e : Int) (s : Nat) (l : Bool) : Prop :=
  (W.cell? ⟨g, 0, none⟩ = some (.bool n) ∧ W.cell? ⟨g, 1, none⟩ = some (.int .i64 e) ∧ W.cell? ⟨g, 2, none⟩ = some (.int .u64 (wd 0 s)) ∧ W.cell? ⟨g, 3, none⟩ = some (.int .u64 (wd 1 s)) ∧ W.cell? ⟨g, 4, none⟩ = some (.int .u64 (wd 2 s)) ∧ W.cell? ⟨g, 5, none⟩ = some (.int .u64 (wd 3 s)) ∧ W.cell? ⟨g, 6, none⟩ = some (.bool l)) ∧
  (W.frozen? ⟨g, 0, none⟩ = false ∧ W.frozen? ⟨g, 1, none⟩ = false ∧ W.frozen? ⟨g, 2, none⟩ = false ∧ W.frozen? ⟨g, 3, none⟩ = false ∧ W.frozen? ⟨g, 4, none⟩ = false ∧ W.frozen? ⟨g, 5, none⟩ = false ∧ W.frozen? ⟨g, 6, none⟩ = false)
section
variable {W W1 : World} {g : Nat} {n n' : Bool} {e e' : Int} {s s' : Nat} {l l' : Bool}
theorem NB.below {B : Nat} (h : NB W g n e s l) (hb : Below B W W1) (hg : g < B) : NB W1 g n e s l := by
  obtain ⟨⟨c0, c1, c2, c3, c4, c5, c6⟩, f0, f1, f2, f3, f4, f5, f6⟩ := h
  exact ⟨⟨(hb.cell hg).trans c0, (hb.cell hg).trans c1, (hb.cell hg).trans c2, (hb.cell hg).trans c3, (hb.cell hg).trans c4, (hb.cell hg).trans c5, (hb.cell hg).trans c6⟩,
    (hb.frozen hg).trans f0, (hb.frozen hg).trans f1, (hb.frozen hg).trans f2, (hb.frozen hg).trans f3, (hb.frozen hg).trans f4, (hb.frozen hg).trans f5, (hb.frozen hg).trans f6⟩
theorem NB.lt (h : NB W g n e s l) : g < W.heap.size := World.block_lt_of_cell? _ _ h.1.1
theorem NB.call (h : NB W g n e s l) (hb : Below W.heap.size W W1) : NB W1 g n e s l := h.below hb h.lt
theorem NB.drew (h : NB W g n e s l) : NB W.drew g n e s l := h
theorem NB.alloc (h : NB W g n e s l) (o : Obj) : NB (W.alloc o) g n e s l := h.call ((Below.refl _ W).alloc (Nat.le_refl _) o)
theorem NB.new : NB (W.alloc (NO n e s l)) W.heap.size n e s l := by
  refine ⟨⟨?_, ?_, ?_, ?_, ?_, ?_, ?_⟩, ?_, ?_, ?_, ?_, ?_, ?_, ?_⟩ <;> (go_simp; done)
theorem NB.far (h : NB W g n e s l) {p : Addr} (hp : p.block ≠ g) (v : Value) : NB (W.setCell p v) g n e s l := by
  obtain ⟨⟨c0, c1, c2, c3, c4, c5, c6⟩, f0, f1, f2, f3, f4, f5, f6⟩ := h
  have ne : ∀ i : Nat, p ≠ ⟨g, i, none⟩ := fun i e => hp (by rw [e])
  exact ⟨⟨(World.cell?_setCell_other _ _ _ _ (ne 0)).trans c0, (World.cell?_setCell_other _ _ _ _ (ne 1)).trans c1, (World.cell?_setCell_other _ _ _ _ (ne 2)).trans c2, (World.cell?_setCell_other _ _ _ _ (ne 3)).trans c3, (World.cell?_setCell_other _ _ _ _ (ne 4)).trans c4, (World.cell?_setCell_other _ _ _ _ (ne 5)).trans c5, (World.cell?_setCell_other _ _ _ _ (ne 6)).trans c6⟩,
    by simpa using f0, by simpa using f1, by simpa using f2, by simpa using f3, by simpa using f4, by simpa using f5, by simpa using f6⟩
theorem addr_neN (b : Nat) {i j : Nat} (h : i ≠ j) : (⟨b, i, none⟩ : Addr) ≠ ⟨b, j, none⟩ := fun e => h (by injection e)
/-- One cell put. -/
theorem NB.set1 (h : NB W g n e s l) (v : Value) (i : Nat) : ∀ j, (W.setCell ⟨g, i, none⟩ v).frozen? ⟨g, j, none⟩ = W.frozen? ⟨g, j, none⟩ := fun j => by simp
theorem NB.setN (h : NB W g n e s l) (n' : Bool) : NB (W.setCell ⟨g, 0, none⟩ (.bool n')) g n' e s l := by
  obtain ⟨⟨c0, c1, c2, c3, c4, c5, c6⟩, f0, f1, f2, f3, f4, f5, f6⟩ := h
  have o : ∀ (j : Nat) (u : Value), j ≠ 0 → W.cell? ⟨g, j, none⟩ = some u → (W.setCell ⟨g, 0, none⟩ (.bool n')).cell? ⟨g, j, none⟩ = some u := fun j u hj hc => (World.cell?_setCell_other _ _ _ _ (addr_neN g (by omega))).trans hc
  exact ⟨⟨World.cell?_setCell_same _ _ _ c0, o 1 _ (by decide) c1, o 2 _ (by decide) c2, o 3 _ (by decide) c3, o 4 _ (by decide) c4, o 5 _ (by decide) c5, o 6 _ (by decide) c6⟩, by simpa using f0, by simpa using f1, by simpa using f2, by simpa using f3, by simpa using f4, by simpa using f5, by simpa using f6⟩
theorem NB.setE (h : NB W g n e s l) (e' : Int) : NB (W.setCell ⟨g, 1, none⟩ (.int .i64 e')) g n e' s l := by
  obtain ⟨⟨c0, c1, c2, c3, c4, c5, c6⟩, f0, f1, f2, f3, f4, f5, f6⟩ := h
  have o : ∀ (j : Nat) (u : Value), j ≠ 1 → W.cell? ⟨g, j, none⟩ = some u → (W.setCell ⟨g, 1, none⟩ (.int .i64 e')).cell? ⟨g, j, none⟩ = some u := fun j u hj hc => (World.cell?_setCell_other _ _ _ _ (addr_neN g (by omega))).trans hc
  exact ⟨⟨o 0 _ (by decide) c0, World.cell?_setCell_same _ _ _ c1, o 2 _ (by decide) c2, o 3 _ (by decide) c3, o 4 _ (by decide) c4, o 5 _ (by decide) c5, o 6 _ (by decide) c6⟩, by simpa using f0, by simpa using f1, by simpa using f2, by simpa using f3, by simpa using f4, by simpa using f5, by simpa using f6⟩
theorem NB.setL (h : NB W g n e s l) (l' : Bool) : NB (W.setCell ⟨g, 6, none⟩ (.bool l')) g n e s l' := by
  obtain ⟨⟨c0, c1, c2, c3, c4, c5, c6⟩, f0, f1, f2, f3, f4, f5, f6⟩ := h
  have o : ∀ (j : Nat) (u : Value), j ≠ 6 → W.cell? ⟨g, j, none⟩ = some u → (W.setCell ⟨g, 6, none⟩ (.bool l')).cell? ⟨g, j, none⟩ = some u := fun j u hj hc => (World.cell?_setCell_other _ _ _ _ (addr_neN g (by omega))).trans hc
  exact ⟨⟨o 0 _ (by decide) c0, o 1 _ (by decide) c1, o 2 _ (by decide) c2, o 3 _ (by decide) c3, o 4 _ (by decide) c4, o 5 _ (by decide) c5, World.cell?_setCell_same _ _ _ c6⟩, by simpa using f0, by simpa using f1, by simpa using f2, by simpa using f3, by simpa using f4, by simpa using f5, by simpa using f6⟩
theorem NB.setS (h : NB W g n e s l) (s' : Nat) : NB ((((W.setCell ⟨g, 2, none⟩ (.int .u64 (wd 0 s'))).setCell ⟨g, 3, none⟩ (.int .u64 (wd 1 s'))).setCell ⟨g, 4, none⟩ (.int .u64 (wd 2 s'))).setCell ⟨g, 5, none⟩ (.int .u64 (wd 3 s'))) g n e s' l := by
  obtain ⟨⟨c0, c1, c2, c3, c4, c5, c6⟩, f0, f1, f2, f3, f4, f5, f6⟩ := h
  have o : ∀ (V : World) (i j : Nat) (v u : Value), i ≠ j → V.cell? ⟨g, j, none⟩ = some u → (V.setCell ⟨g, i, none⟩ v).cell? ⟨g, j, none⟩ = some u := fun V i j v u hj hc => (World.cell?_setCell_other _ _ _ _ (addr_neN g hj)).trans hc
  refine ⟨⟨?_, ?_, ?_, ?_, ?_, ?_, ?_⟩, by simpa using f0, by simpa using f1, by simpa using f2, by simpa using f3, by simpa using f4, by simpa using f5, by simpa using f6⟩
  · exact o _ _ _ _ _ (by decide) (o _ _ _ _ _ (by decide) (o _ _ _ _ _ (by decide) (o _ _ _ _ _ (by decide) c0)))
  · exact o _ _ _ _ _ (by decide) (o _ _ _ _ _ (by decide) (o _ _ _ _ _ (by decide) (o _ _ _ _ _ (by decide) c1)))
  · exact o _ _ _ _ _ (by decide) (o _ _ _ _ _ (by decide) (o _ _ _ _ _ (by decide) (World.cell?_setCell_same _ _ _ c2)))
  · exact o _ _ _ _ _ (by decide) (o _ _ _ _ _ (by decide) (World.cell?_setCell_same _ _ _ (o _ _ _ _ _ (by decide) c3)))
  · exact o _ _ _ _ _ (by decide) (World.cell?_setCell_same _ _ _ (o _ _ _ _ _ (by decide) (o _ _ _ _ _ (by decide) c4)))
  · exact World.cell?_setCell_same _ _ _ (o _ _ _ _ _ (by decide) (o _ _ _ _ _ (by decide) (o _ _ _ _ _ (by decide) c5)))
  · exact o _ _ _ _ _ (by decide) (o _ _ _ _ _ (by decide) (o _ _ _ _ _ (by decide) (o _ _ _ _ _ (by decide) c6)))
theorem NB.put (h : NB W g n e s l) (n' : Bool) (e' : Int) (s' : Nat) (l' : Bool) : NB (((((((W.setCell ⟨g, 0, none⟩ (.bool n')).setCell ⟨g, 1, none⟩ (.int .i64 e')).setCell ⟨g, 2, none⟩ (.int .u64 (wd 0 s'))).setCell ⟨g, 3, none⟩ (.int .u64 (wd 1 s'))).setCell ⟨g, 4, none⟩ (.int .u64 (wd 2 s'))).setCell ⟨g, 5, none⟩ (.int .u64 (wd 3 s'))).setCell ⟨g, 6, none⟩ (.bool l')) g n' e' s' l' :=
  (((h.setN n').setE e').setS s').setL l'
theorem NB.farS (h : NB W g n e s l) {g' : Nat} (hg : g' ≠ g) (v0 v1 v2 v3 : Value) : NB ((((W.setCell ⟨g', 2, none⟩ v0).setCell ⟨g', 3, none⟩ v1).setCell ⟨g', 4, none⟩ v2).setCell ⟨g', 5, none⟩ v3) g n e s l :=
  (((h.far (p := ⟨g', _, none⟩) hg v0).far (p := ⟨g', _, none⟩) hg v1).far (p := ⟨g', _, none⟩) hg v2).far (p := ⟨g', _, none⟩) hg v3
theorem NB.farP (h : NB W g n e s l) {g' : Nat} (hg : g' ≠ g) (v0 v1 v2 v3 v4 v5 v6 : Value) : NB (((((((W.setCell ⟨g', 0, none⟩ v0).setCell ⟨g', 1, none⟩ v1).setCell ⟨g', 2, none⟩ v2).setCell ⟨g', 3, none⟩ v3).setCell ⟨g', 4, none⟩ v4).setCell ⟨g', 5, none⟩ v5).setCell ⟨g', 6, none⟩ v6) g n e s l :=
  ((((((h.far (p := ⟨g', _, none⟩) hg v0).far (p := ⟨g', _, none⟩) hg v1).far (p := ⟨g', _, none⟩) hg v2).far (p := ⟨g', _, none⟩) hg v3).far (p := ⟨g', _, none⟩) hg v4).far (p := ⟨g', _, none⟩) hg v5).far (p := ⟨g', _, none⟩) hg v6
end
end Go.Proofs.YtldmbneckcjonabDoor
