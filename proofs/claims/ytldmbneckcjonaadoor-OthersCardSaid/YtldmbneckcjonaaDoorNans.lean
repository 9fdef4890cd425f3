/- soft.bad, soft.nans. -/
import Derived.Test.YtldmbneckcjonaaDoorNanM
import Derived.Test.YtldmbneckcjonaaDoorSmall
import Derived.Below
import Derived.Lib.Hide
import Derived.Deep.RegionHeld3
import Derived.Deep.Cut
import Derived.Deep.DeepCutAuto
namespace Go.Proofs.YtldmbneckcjonaaDoor
open Go.RowKit
/-- A record, a result of the program, as values. -/
abbrev REC (op md a b c : Nat) : Value := .agg #[.int .u8 op, .int .u8 md, .int .u64 a, .int .u64 b, .int .u64 c]
abbrev RES1 (b f : Nat) (bad : Bool) : Value := .agg #[.int .u64 b, .int .u8 f, .bool bad]
set_option maxRecDepth 100000 in
set_option maxHeartbeats 400000 in
theorem bad_any (w : World) : Calls Tryd.prog 61 #[] w fun e w' => e = .returned (RES1 9221120237041090560 16 false) ∧ Below w.heap.size w w' := by
  go_enter Tryd.func61, Tryd.ntmps61
  go_wp2_with fail
  refine bodyPost_ret (v := RES1 9221120237041090560 16 false) (by simp [results, Tryd.results61, go_sem]) rfl ⟨rfl, ?_⟩
  repeat' (first | with_reducible exact Below.refl _ _ | with_reducible assumption | with_reducible refine Below.drew ?_ | with_reducible refine bdrewN ?_ _ | with_reducible refine Below.alloc ?_ ?_ _ | with_reducible refine Below.setCell ?_ ?_ _ | with_reducible refine Below.trans ?_ (Below.mono (by assumption) ?_) | omega | (simp; done) | (simp; omega))
/-- What nans' boxes hold in its loop. -/
def NanSt (w : World) (op md a b c n : Nat) (bt fl : Nat) (wr : World) : Prop :=
  (wr.cell? ⟨w.heap.size, 0, none⟩ = some (.int .u8 op) ∧ wr.cell? ⟨w.heap.size, 1, none⟩ = some (.int .u8 md) ∧ wr.cell? ⟨w.heap.size, 2, none⟩ = some (.int .u64 a) ∧ wr.cell? ⟨w.heap.size, 3, none⟩ = some (.int .u64 b) ∧ wr.cell? ⟨w.heap.size, 4, none⟩ = some (.int .u64 c)) ∧
  (wr.cell? ⟨w.heap.size + 1, 0, none⟩ = some (.int .u64 0) ∧ wr.cell? ⟨w.heap.size + 1, 1, none⟩ = some (.int .u8 0) ∧ wr.cell? ⟨w.heap.size + 1, 2, none⟩ = some (.bool false)) ∧
  (wr.frozen? ⟨w.heap.size + 1, 0, none⟩ = false ∧ wr.frozen? ⟨w.heap.size + 1, 1, none⟩ = false ∧ wr.frozen? ⟨w.heap.size + 1, 2, none⟩ = false) ∧
  (∀ i, i < n → wr.cell? ⟨w.heap.size + 1 + 1, i, none⟩ = some (.int .u64 (opnd a b c i))) ∧
  (wr.cell? ⟨w.heap.size + 1 + 1 + 1, 0, none⟩ = some (.int .u64 bt) ∧ wr.cell? ⟨w.heap.size + 1 + 1 + 1, 1, none⟩ = some (.int .u8 fl) ∧ wr.cell? ⟨w.heap.size + 1 + 1 + 1, 2, none⟩ = some (.bool false)) ∧
  (wr.frozen? ⟨w.heap.size + 1 + 1 + 1, 0, none⟩ = false ∧ wr.frozen? ⟨w.heap.size + 1 + 1 + 1, 1, none⟩ = false) ∧
  Below w.heap.size w wr ∧ wr.heap.size = w.heap.size + 4
theorem slice3_0 (g : Nat) (w : World) : (Instr.sliceAt 110 (.pointer (some ⟨g, 0, none⟩)) none (some (.int .i64 ((0 : Nat) : Int))) none).run Tryd.prog w = .ok (.slice (some ⟨g, 0, none⟩) 0 3) w := by kernel_rfl
theorem slice3_1 (g : Nat) (w : World) : (Instr.sliceAt 110 (.pointer (some ⟨g, 0, none⟩)) none (some (.int .i64 ((1 : Nat) : Int))) none).run Tryd.prog w = .ok (.slice (some ⟨g, 0, none⟩) 1 3) w := by kernel_rfl
theorem slice3_2 (g : Nat) (w : World) : (Instr.sliceAt 110 (.pointer (some ⟨g, 0, none⟩)) none (some (.int .i64 ((2 : Nat) : Int))) none).run Tryd.prog w = .ok (.slice (some ⟨g, 0, none⟩) 2 3) w := by kernel_rfl
theorem slice3_3 (g : Nat) (w : World) : (Instr.sliceAt 110 (.pointer (some ⟨g, 0, none⟩)) none (some (.int .i64 ((3 : Nat) : Int))) none).run Tryd.prog w = .ok (.slice (some ⟨g, 0, none⟩) 3 3) w := by kernel_rfl
theorem slice3 (g n : Nat) (hn : n ≤ 3) (w : World) : (Instr.sliceAt 110 (.pointer (some ⟨g, 0, none⟩)) none (some (.int .i64 (n : Int))) none).run Tryd.prog w = .ok (.slice (some ⟨g, 0, none⟩) n 3) w := by
  have h : n = 0 ∨ n = 1 ∨ n = 2 ∨ n = 3 := by omega
  rcases h with rfl | rfl | rfl | rfl
  · exact slice3_0 g w
  · exact slice3_1 g w
  · exact slice3_2 g w
  · exact slice3_3 g w
section
variable {w wr : World} {op md a b c n bt fl : Nat}
theorem NanSt.setB (h : NanSt w op md a b c n bt fl wr) (v : Nat) : NanSt w op md a b c n v fl (wr.setCell ⟨w.heap.size + 1 + 1 + 1, 0, none⟩ (.int .u64 v)) := by
  obtain ⟨⟨r0, r1, r2, r3, r4⟩, ⟨o0, o1, o2⟩, ⟨p0, p1, p2⟩, hx, ⟨b0, b1, b2⟩, ⟨q0, q1⟩, hB, hsz⟩ := h
  have far : ∀ (g o : Nat) (u : Value), g < w.heap.size + 1 + 1 + 1 → wr.cell? ⟨g, o, none⟩ = some u → (wr.setCell ⟨w.heap.size + 1 + 1 + 1, 0, none⟩ (.int .u64 v)).cell? ⟨g, o, none⟩ = some u := fun g o u hg hc => by
    rw [World.cell?_setCell_other _ _ _ _ (fun e => by injection e with e _; omega)]; exact hc
  have near : ∀ (o : Nat) (u : Value), o ≠ 0 → wr.cell? ⟨w.heap.size + 1 + 1 + 1, o, none⟩ = some u → (wr.setCell ⟨w.heap.size + 1 + 1 + 1, 0, none⟩ (.int .u64 v)).cell? ⟨w.heap.size + 1 + 1 + 1, o, none⟩ = some u := fun o u ho hc => by
    rw [World.cell?_setCell_other _ _ _ _ (fun e => by injection e with _ e _; omega)]; exact hc
  refine ⟨⟨far _ _ _ (by omega) r0, far _ _ _ (by omega) r1, far _ _ _ (by omega) r2, far _ _ _ (by omega) r3, far _ _ _ (by omega) r4⟩, ⟨far _ _ _ (by omega) o0, far _ _ _ (by omega) o1, far _ _ _ (by omega) o2⟩, ⟨by simpa using p0, by simpa using p1, by simpa using p2⟩, fun i hi => far _ _ _ (by omega) (hx i hi), ⟨World.cell?_setCell_same _ _ _ b0, near _ _ (by omega) b1, near _ _ (by omega) b2⟩, ⟨by simpa using q0, by simpa using q1⟩, hB.setCell (p := ⟨_, _, _⟩) (by show w.heap.size ≤ w.heap.size + 1 + 1 + 1; omega) _, by simpa using hsz⟩
theorem NanSt.setF (h : NanSt w op md a b c n bt fl wr) (v : Nat) : NanSt w op md a b c n bt v (wr.setCell ⟨w.heap.size + 1 + 1 + 1, 1, none⟩ (.int .u8 v)) := by
  obtain ⟨⟨r0, r1, r2, r3, r4⟩, ⟨o0, o1, o2⟩, ⟨p0, p1, p2⟩, hx, ⟨b0, b1, b2⟩, ⟨q0, q1⟩, hB, hsz⟩ := h
  have far : ∀ (g o : Nat) (u : Value), g < w.heap.size + 1 + 1 + 1 → wr.cell? ⟨g, o, none⟩ = some u → (wr.setCell ⟨w.heap.size + 1 + 1 + 1, 1, none⟩ (.int .u8 v)).cell? ⟨g, o, none⟩ = some u := fun g o u hg hc => by
    rw [World.cell?_setCell_other _ _ _ _ (fun e => by injection e with e _; omega)]; exact hc
  have near : ∀ (o : Nat) (u : Value), o ≠ 1 → wr.cell? ⟨w.heap.size + 1 + 1 + 1, o, none⟩ = some u → (wr.setCell ⟨w.heap.size + 1 + 1 + 1, 1, none⟩ (.int .u8 v)).cell? ⟨w.heap.size + 1 + 1 + 1, o, none⟩ = some u := fun o u ho hc => by
    rw [World.cell?_setCell_other _ _ _ _ (fun e => by injection e with _ e _; omega)]; exact hc
  refine ⟨⟨far _ _ _ (by omega) r0, far _ _ _ (by omega) r1, far _ _ _ (by omega) r2, far _ _ _ (by omega) r3, far _ _ _ (by omega) r4⟩, ⟨far _ _ _ (by omega) o0, far _ _ _ (by omega) o1, far _ _ _ (by omega) o2⟩, ⟨by simpa using p0, by simpa using p1, by simpa using p2⟩, fun i hi => far _ _ _ (by omega) (hx i hi), ⟨near _ _ (by omega) b0, World.cell?_setCell_same _ _ _ b1, near _ _ (by omega) b2⟩, ⟨by simpa using q0, by simpa using q1⟩, hB.setCell (p := ⟨_, _, _⟩) (by show w.heap.size ≤ w.heap.size + 1 + 1 + 1; omega) _, by simpa using hsz⟩
end
attribute [local go_sem] two_run
set_option maxRecDepth 100000 in
set_option maxHeartbeats 1000000 in
theorem nans_any (op md a b c n : Nat) (hn : n ≤ 3) (ua : U64 a) (ub : U64 b) (uc : U64 c) (w : World) :
    Calls Tryd.prog 44 #[REC op md a b c, .int .i64 n] w fun e w' => e = .returned (.tuple #[RES1 (nanR op a b c n).2.1 (nanR op a b c n).2.2 false, .bool (nanR op a b c n).1]) ∧ Below w.heap.size w w' := by
  have hsl := fun g (W : World) => slice3 g n hn W
  obtain ⟨R, hR0⟩ : ∃ R, nanR op a b c n = R := ⟨_, rfl⟩
  rw [hR0]
  replace hR0 := Lib.hid hR0
  go_enter Tryd.func44, Tryd.ntmps44
  go_wp2
  clear hsl
  go_loopw [8, 10, 11, 23] (fun s _ _ i wr => ∃ k : Nat, i = .int .i64 k ∧ k ≤ n ∧ s = .bool (nanS a b c k) ∧ NanSt w op md a b c n (nanB a b c k) (nanF a b c k) wr) (fun _ _ _ i _ => n - (intOf i).toNat)
  case atStart =>
    refine ⟨0, rfl, Nat.zero_le _, rfl, ?_, ?_, ?_, ?_, ?_, ?_, ?_, ?_⟩
    · refine ⟨?_, ?_, ?_, ?_, ?_⟩ <;> (go_simp; done)
    · refine ⟨?_, ?_, ?_⟩ <;> (go_simp; done)
    · refine ⟨?_, ?_, ?_⟩ <;> (go_simp; done)
    · intro i hi
      have h3 : i = 0 ∨ i = 1 ∨ i = 2 := by omega
      rcases h3 with rfl | rfl | rfl <;> (unfold opnd; go_simp; done)
    · refine ⟨?_, ?_, ?_⟩ <;> (show _ = _; go_simp; try rfl)
    · refine ⟨?_, ?_⟩ <;> (go_simp; done)
    · repeat' (first | with_reducible exact Below.refl _ _ | with_reducible assumption | with_reducible refine Below.drew ?_ | with_reducible refine bdrewN ?_ _ | with_reducible refine Below.alloc ?_ ?_ _ | with_reducible refine Below.setCell ?_ ?_ _ | with_reducible refine Below.trans ?_ (Below.mono (by assumption) ?_) | omega | (simp; done) | (simp; omega))
    · simp
  case round =>
    obtain ⟨k, rfl, hk, rfl, hst⟩ := hrel
    have hst' := hst
    obtain ⟨⟨r0, r1, r2, r3, r4⟩, ⟨o0, o1, o2⟩, ⟨p0, p1, p2⟩, hx, ⟨b0, b1, b2⟩, ⟨q0, q1⟩, hB, hsz⟩ := hst'
    by_cases hkn : k < n
    · have hxk := hx k hkn
      have ux := opnd_u (i := k) ua ub uc
      have hor := quiet_or ux
      have sS : nanS a b c (k + 1) = (nanS a b c k || decide (4 ≤ kindN (opnd a b c k))) := rfl
      have sB : nanB a b c (k + 1) = if nanS a b c k = false ∧ 4 ≤ kindN (opnd a b c k) then quietN (opnd a b c k) else nanB a b c k := rfl
      have sF : nanF a b c (k + 1) = if kindN (opnd a b c k) = 5 then 16 else nanF a b c k := rfl
      have KC := Lib.hid (fun W => kindOf_any (opnd a b c k) W)
      have h6 := kindN_lt (opnd a b c k)
      have rel : ∀ wr', NanSt w op md a b c n (nanB a b c (k + 1)) (nanF a b c (k + 1)) wr' → ∀ s, s = nanS a b c (k + 1) → ∃ k' : Nat, Value.int .i64 ((k : Int) + 1) = .int .i64 k' ∧ k' ≤ n ∧ Value.bool s = .bool (nanS a b c k') ∧ NanSt w op md a b c n (nanB a b c k') (nanF a b c k') wr' := fun wr' h s hs => ⟨k + 1, rfl, hkn, by rw [hs], h⟩
      rw [sS, sB, sF] at rel
      replace rel := Lib.hid rel
      clear sS sB sF hx ux ua ub uc
      generalize nanS a b c k = s at *
      generalize nanB a b c k = bt at *
      generalize nanF a b c k = fl at *
      generalize opnd a b c k = x at *
      generalize kindN x = K at *
      have hcs : K < 4 ∨ K = 4 ∨ K = 5 := by omega
      rcases hcs with h4 | rfl | rfl
      · rw [if_neg (by omega), if_neg (by omega), show decide (4 ≤ K) = false from decide_eq_false (by omega)] at rel
        have h4a : decide ((4 : Int) ≤ K) = false := decide_eq_false (by omega)
        have h4b : ((K : Int) == 5) = false := by rw [beq_eq_false_iff_ne]; omega
        go_wp2_with (go_at_call 42; refine (KC.out _).mono ?_; rintro e w' ⟨rfl, rfl⟩)
        go_roundw
        case rel => exact rel.out _ hst _ (by rw [Bool.or_false])
        case measure => simp [intOf]; omega
      · rw [if_neg (show ¬ 4 = 5 by decide)] at rel
        cases s
        · rw [if_pos ⟨rfl, Nat.le_refl _⟩] at rel
          go_wp2_with (go_at_call 42; refine (KC.out _).mono ?_; rintro e w' ⟨rfl, rfl⟩)
          go_roundw
          case rel => exact rel.out _ (hst.setB _) _ (by simp)
          case measure => simp [intOf]; omega
        · rw [if_neg (by simp)] at rel
          go_wp2_with (go_at_call 42; refine (KC.out _).mono ?_; rintro e w' ⟨rfl, rfl⟩)
          go_roundw
          case rel => exact rel.out _ hst _ (by simp)
          case measure => simp [intOf]; omega
      · rw [if_pos rfl] at rel
        cases s
        · rw [if_pos ⟨rfl, by decide⟩] at rel
          go_wp2_with (go_at_call 42; refine (KC.out _).mono ?_; rintro e w' ⟨rfl, rfl⟩)
          go_roundw
          case rel => exact rel.out _ ((hst.setB _).setF 16) _ (by simp)
          case measure => simp [intOf]; omega
        · rw [if_neg (by simp)] at rel
          go_wp2_with (go_at_call 42; refine (KC.out _).mono ?_; rintro e w' ⟨rfl, rfl⟩)
          go_roundw
          case rel => exact rel.out _ (hst.setF 16) _ (by simp)
          case measure => simp [intOf]; omega
    · obtain rfl : k = n := by omega
      clear hkn hk hx
      by_cases hS : nanS a b c k = false
      · have hR := nanR_no (op := op) hS
        rw [hR0.out] at hR
        subst hR
        rw [hS]
        obtain ⟨z1, z2⟩ := nanS_no hS
        rw [z1] at b0
        rw [z2] at b1
        clear hst hS hR0
        go_wp2_with fail
        refine bodyPost_ret (v := .tuple #[RES1 0 0 false, .bool false]) (by simp [results, Tryd.results44, go_sem, *]) rfl ⟨rfl, ?_⟩
        repeat' (first | with_reducible exact Below.refl _ _ | with_reducible assumption | with_reducible refine Below.drew ?_ | with_reducible refine bdrewN ?_ _ | with_reducible refine Below.alloc ?_ ?_ _ | with_reducible refine Below.setCell ?_ ?_ _ | with_reducible refine Below.trans ?_ (Below.mono (by assumption) ?_) | omega | (simp; done) | (simp; omega))
      · rw [Bool.not_eq_false] at hS
        have hR : R = (if op = 5 ∧ kindN c = 4 ∧ ((kindN a = 0 ∧ kindN b = 3) ∨ (kindN a = 3 ∧ kindN b = 0)) then (true, 9221120237041090560, 16)
            else if op = 9 ∧ nanF a b c k = 0 ∧ (kindN a = 3 ∨ kindN b = 3) then (true, 9218868437227405312, 0) else (true, nanB a b c k, nanF a b c k)) := by rw [← hR0.out]; unfold nanR; rw [if_neg (by rw [hS]; decide)]
        replace hR := Lib.hid hR
        clear hR0
        rw [hS]
        generalize nanB a b c k = bt at *
        generalize nanF a b c k = fl at *
        have Ka := Lib.hid (fun W => kindOf_any a W)
        have Kb := Lib.hid (fun W => kindOf_any b W)
        have Kc := Lib.hid (fun W => kindOf_any c W)
        generalize kindN a = ka at *
        generalize kindN b = kb at *
        generalize kindN c = kc at *
        clear hst hS ua ub uc
        go_upto_region 16 with (fail)
        go_cut [12] (fun s wx => s = .pointer (some ⟨w.heap.size + 4, 0, none⟩) ∧ (wr.alloc (.cells #[.int .i64 ka, .int .i64 kb] 113)).drew = wx)
        case first =>
          go_region_held3 (fun w' => (w'.cell? ⟨w.heap.size, 2, none⟩ = some (.int .u64 a) ∧ w'.cell? ⟨w.heap.size, 3, none⟩ = some (.int .u64 b)))
            (first
              | exact ⟨r2, r3⟩
              | go_keep)
            (first
              | (go_at_call_of 42 (Value.int IntKind.u64 a); refine (Ka.out _).mono ?_; rintro e w' ⟨rfl, rfl⟩)
              | (go_at_call_of 42 (Value.int IntKind.u64 b); refine (Kb.out _).mono ?_; rintro e w' ⟨rfl, rfl⟩))
          all_goals (go_wp2_with fail; go_meet; exact ⟨rfl, rfl⟩)
        case rest =>
          obtain ⟨rfl, rfl⟩ := hcut
          by_cases h5 : op = 5
          · subst h5
            by_cases hc4 : kc = 4
            · subst hc4
              by_cases ha : ka = 0 ∧ kb = 3
              · obtain ⟨rfl, rfl⟩ := ha
                obtain rfl : R = (true, 9221120237041090560, 16) := by rw [hR.out]; simp
                clear hR
                go_wp2_with (first | (go_at_call 42; refine (Kc.out _).mono ?_; rintro e w' ⟨rfl, rfl⟩) | (go_at_call 61; refine (bad_any _).mono ?_; rintro e w1 ⟨rfl, hb1⟩; obtain ⟨hc_, hf_⟩ := bcell1 hb1))
                all_goals refine bodyPost_ret (v := .tuple #[RES1 9221120237041090560 16 false, .bool true]) (by simp [results, Tryd.results44, go_sem, *]) rfl ⟨rfl, ?_⟩
                repeat' (first | with_reducible exact Below.refl _ _ | with_reducible assumption | with_reducible refine Below.drew ?_ | with_reducible refine bdrewN ?_ _ | with_reducible refine Below.alloc ?_ ?_ _ | with_reducible refine Below.setCell ?_ ?_ _ | with_reducible refine Below.trans ?_ (Below.mono (by assumption) ?_) | omega | (simp; done) | (simp; omega))
              · by_cases hb : ka = 3 ∧ kb = 0
                · obtain ⟨rfl, rfl⟩ := hb
                  obtain rfl : R = (true, 9221120237041090560, 16) := by rw [hR.out]; simp
                  clear hR
                  go_wp2_with (first | (go_at_call 42; refine (Kc.out _).mono ?_; rintro e w' ⟨rfl, rfl⟩) | (go_at_call 61; refine (bad_any _).mono ?_; rintro e w1 ⟨rfl, hb1⟩; obtain ⟨hc_, hf_⟩ := bcell1 hb1))
                  all_goals refine bodyPost_ret (v := .tuple #[RES1 9221120237041090560 16 false, .bool true]) (by simp [results, Tryd.results44, go_sem, *]) rfl ⟨rfl, ?_⟩
                  repeat' (first | with_reducible exact Below.refl _ _ | with_reducible assumption | with_reducible refine Below.drew ?_ | with_reducible refine bdrewN ?_ _ | with_reducible refine Below.alloc ?_ ?_ _ | with_reducible refine Below.setCell ?_ ?_ _ | with_reducible refine Below.trans ?_ (Below.mono (by assumption) ?_) | omega | (simp; done) | (simp; omega))
                · have f1 : ((ka : Int) == 0 && (kb : Int) == 3) = false := by rw [Bool.and_eq_false_iff, beq_eq_false_iff_ne, beq_eq_false_iff_ne]; omega
                  have f2 : ((ka : Int) == 3 && (kb : Int) == 0) = false := by rw [Bool.and_eq_false_iff, beq_eq_false_iff_ne, beq_eq_false_iff_ne]; omega
                  obtain rfl : R = (true, bt, fl) := by rw [hR.out]; rw [if_neg (by omega), if_neg (by omega)]
                  clear hR
                  go_wp2_with (first | (go_at_call 42; refine (Kc.out _).mono ?_; rintro e w' ⟨rfl, rfl⟩) | (go_at_call 61; refine (bad_any _).mono ?_; rintro e w1 ⟨rfl, hb1⟩; obtain ⟨hc_, hf_⟩ := bcell1 hb1))
                  all_goals refine bodyPost_ret (v := .tuple #[RES1 bt fl false, .bool true]) (by simp [results, Tryd.results44, go_sem, *]) rfl ⟨rfl, ?_⟩
                  repeat' (first | with_reducible exact Below.refl _ _ | with_reducible assumption | with_reducible refine Below.drew ?_ | with_reducible refine bdrewN ?_ _ | with_reducible refine Below.alloc ?_ ?_ _ | with_reducible refine Below.setCell ?_ ?_ _ | with_reducible refine Below.trans ?_ (Below.mono (by assumption) ?_) | omega | (simp; done) | (simp; omega))
            · have f1 : ((kc : Int) == 4) = false := by rw [beq_eq_false_iff_ne]; omega
              obtain rfl : R = (true, bt, fl) := by rw [hR.out]; rw [if_neg (by omega), if_neg (by omega)]
              clear hR
              go_wp2_with (first | (go_at_call 42; refine (Kc.out _).mono ?_; rintro e w' ⟨rfl, rfl⟩) | (go_at_call 61; refine (bad_any _).mono ?_; rintro e w1 ⟨rfl, hb1⟩; obtain ⟨hc_, hf_⟩ := bcell1 hb1))
              all_goals refine bodyPost_ret (v := .tuple #[RES1 bt fl false, .bool true]) (by simp [results, Tryd.results44, go_sem, *]) rfl ⟨rfl, ?_⟩
              repeat' (first | with_reducible exact Below.refl _ _ | with_reducible assumption | with_reducible refine Below.drew ?_ | with_reducible refine bdrewN ?_ _ | with_reducible refine Below.alloc ?_ ?_ _ | with_reducible refine Below.setCell ?_ ?_ _ | with_reducible refine Below.trans ?_ (Below.mono (by assumption) ?_) | omega | (simp; done) | (simp; omega))
          · have f5 : ((op : Int) == 5) = false := by rw [beq_eq_false_iff_ne]; omega
            by_cases h9 : op = 9
            · subst h9
              by_cases hf0 : fl = 0
              · subst hf0
                by_cases ha : ka = 3
                · subst ha
                  obtain rfl : R = (true, 9218868437227405312, 0) := by rw [hR.out]; simp
                  clear hR
                  go_wp2_with (first | (go_at_call 42; refine (Kc.out _).mono ?_; rintro e w' ⟨rfl, rfl⟩) | (go_at_call 61; refine (bad_any _).mono ?_; rintro e w1 ⟨rfl, hb1⟩; obtain ⟨hc_, hf_⟩ := bcell1 hb1))
                  all_goals refine bodyPost_ret (v := .tuple #[RES1 9218868437227405312 0 false, .bool true]) (by simp [results, Tryd.results44, go_sem, *]) rfl ⟨rfl, ?_⟩
                  repeat' (first | with_reducible exact Below.refl _ _ | with_reducible assumption | with_reducible refine Below.drew ?_ | with_reducible refine bdrewN ?_ _ | with_reducible refine Below.alloc ?_ ?_ _ | with_reducible refine Below.setCell ?_ ?_ _ | with_reducible refine Below.trans ?_ (Below.mono (by assumption) ?_) | omega | (simp; done) | (simp; omega))
                · have f1 : ((ka : Int) == 3) = false := by rw [beq_eq_false_iff_ne]; omega
                  by_cases hb : kb = 3
                  · subst hb
                    obtain rfl : R = (true, 9218868437227405312, 0) := by rw [hR.out]; simp
                    clear hR
                    go_wp2_with (first | (go_at_call 42; refine (Kc.out _).mono ?_; rintro e w' ⟨rfl, rfl⟩) | (go_at_call 61; refine (bad_any _).mono ?_; rintro e w1 ⟨rfl, hb1⟩; obtain ⟨hc_, hf_⟩ := bcell1 hb1))
                    all_goals refine bodyPost_ret (v := .tuple #[RES1 9218868437227405312 0 false, .bool true]) (by simp [results, Tryd.results44, go_sem, *]) rfl ⟨rfl, ?_⟩
                    repeat' (first | with_reducible exact Below.refl _ _ | with_reducible assumption | with_reducible refine Below.drew ?_ | with_reducible refine bdrewN ?_ _ | with_reducible refine Below.alloc ?_ ?_ _ | with_reducible refine Below.setCell ?_ ?_ _ | with_reducible refine Below.trans ?_ (Below.mono (by assumption) ?_) | omega | (simp; done) | (simp; omega))
                  · have f2 : ((kb : Int) == 3) = false := by rw [beq_eq_false_iff_ne]; omega
                    obtain rfl : R = (true, bt, 0) := by rw [hR.out]; rw [if_neg (by omega), if_neg (by omega)]
                    clear hR
                    go_wp2_with (first | (go_at_call 42; refine (Kc.out _).mono ?_; rintro e w' ⟨rfl, rfl⟩) | (go_at_call 61; refine (bad_any _).mono ?_; rintro e w1 ⟨rfl, hb1⟩; obtain ⟨hc_, hf_⟩ := bcell1 hb1))
                    all_goals refine bodyPost_ret (v := .tuple #[RES1 bt 0 false, .bool true]) (by simp [results, Tryd.results44, go_sem, *]) rfl ⟨rfl, ?_⟩
                    repeat' (first | with_reducible exact Below.refl _ _ | with_reducible assumption | with_reducible refine Below.drew ?_ | with_reducible refine bdrewN ?_ _ | with_reducible refine Below.alloc ?_ ?_ _ | with_reducible refine Below.setCell ?_ ?_ _ | with_reducible refine Below.trans ?_ (Below.mono (by assumption) ?_) | omega | (simp; done) | (simp; omega))
              · have f1 : ((fl : Int) == 0) = false := by rw [beq_eq_false_iff_ne]; omega
                obtain rfl : R = (true, bt, fl) := by rw [hR.out]; rw [if_neg (by omega), if_neg (by omega)]
                clear hR
                go_wp2_with (first | (go_at_call 42; refine (Kc.out _).mono ?_; rintro e w' ⟨rfl, rfl⟩) | (go_at_call 61; refine (bad_any _).mono ?_; rintro e w1 ⟨rfl, hb1⟩; obtain ⟨hc_, hf_⟩ := bcell1 hb1))
                all_goals refine bodyPost_ret (v := .tuple #[RES1 bt fl false, .bool true]) (by simp [results, Tryd.results44, go_sem, *]) rfl ⟨rfl, ?_⟩
                repeat' (first | with_reducible exact Below.refl _ _ | with_reducible assumption | with_reducible refine Below.drew ?_ | with_reducible refine bdrewN ?_ _ | with_reducible refine Below.alloc ?_ ?_ _ | with_reducible refine Below.setCell ?_ ?_ _ | with_reducible refine Below.trans ?_ (Below.mono (by assumption) ?_) | omega | (simp; done) | (simp; omega))
            · have f9 : ((op : Int) == 9) = false := by rw [beq_eq_false_iff_ne]; omega
              obtain rfl : R = (true, bt, fl) := by rw [hR.out]; rw [if_neg (by omega), if_neg (by omega)]
              clear hR
              go_wp2_with (first | (go_at_call 42; refine (Kc.out _).mono ?_; rintro e w' ⟨rfl, rfl⟩) | (go_at_call 61; refine (bad_any _).mono ?_; rintro e w1 ⟨rfl, hb1⟩; obtain ⟨hc_, hf_⟩ := bcell1 hb1))
              all_goals refine bodyPost_ret (v := .tuple #[RES1 bt fl false, .bool true]) (by simp [results, Tryd.results44, go_sem, *]) rfl ⟨rfl, ?_⟩
              repeat' (first | with_reducible exact Below.refl _ _ | with_reducible assumption | with_reducible refine Below.drew ?_ | with_reducible refine bdrewN ?_ _ | with_reducible refine Below.alloc ?_ ?_ _ | with_reducible refine Below.setCell ?_ ?_ _ | with_reducible refine Below.trans ?_ (Below.mono (by assumption) ?_) | omega | (simp; done) | (simp; omega))
end Go.Proofs.YtldmbneckcjonaaDoor
