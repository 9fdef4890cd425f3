/- Several texts in one: softfloatref.operands, nans. · softfloatref.Do. · The argument of every law, a slice of steps, opened to its cells. The steps may be any that can be read. · softfloatlaw.given, asked, same, done, of. · softfloatlaw.of: the steps with a code from lo to hi. · What the law Others answers: true, of every script. -/
import Derived.Lib.Hide
import Derived.WalkKit
import Derived.Deep.RegionWith
import Derived.ProofKit
import Derived.Deep.Slices
import Derived.Deep.Fields
import Derived.Test.YtldmbneckcjonaaDoorGN
import Derived.Test.YtldmbneckcjonaaDoorGC
import Derived.Test.YtldmbneckcjonaaDoorChecked
import Derived.Test.YtldmbneckcjonaaDoorGA
set_option linter.unusedVariables false
set_option linter.unusedSimpArgs false
namespace Go.Proofs.YtldmbneckcjonaaDoor
open Go.RowKit
/-- A record of the reference, as a value. -/
abbrev RREC (op md a b c : Nat) : Value := .agg #[.int .i64 op, .int .i64 md, .int .u64 a, .int .u64 b, .int .u64 c]
def OpsOut (n a b c : Nat) (w : World) (e : Ending) (w' : World) : Prop := ∃ g, e = .returned (.slice (some ⟨g, 0, none⟩) n n) ∧ (∀ i, i < n → w'.cell? ⟨g, i, none⟩ = some (.int .u64 (opnd a b c i))) ∧ Below w.heap.size w w'
set_option maxRecDepth 100000 in
set_option maxHeartbeats 400000 in
theorem operands_5 (md a b c : Nat) (w : World) : Calls Tryd.prog 62 #[RREC 5 md a b c] w (OpsOut 3 a b c w) := by
  go_enter Tryd.func62, Tryd.ntmps62
  go_wp2
  go_ret
  refine ⟨_, rfl, fun i hi => ?_, ?_⟩
  · have h3 : i = 0 ∨ i = 1 ∨ i = 2 := by omega
    rcases h3 with rfl | rfl | rfl <;> (unfold opnd; go_simp; done)
  repeat' (first | with_reducible exact Below.refl _ _ | with_reducible assumption | with_reducible refine Below.drew ?_ | with_reducible refine bdrewN ?_ _ | with_reducible refine Below.alloc ?_ ?_ _ | with_reducible refine Below.setCell ?_ ?_ _ | with_reducible refine Below.trans ?_ (Below.mono (by assumption) ?_) | omega | (simp; done) | (simp; omega))
set_option maxRecDepth 100000 in
set_option maxHeartbeats 400000 in
theorem operands_1 (op md a b c : Nat) (h : op = 6 ∨ op = 7 ∨ op = 8) (w : World) : Calls Tryd.prog 62 #[RREC op md a b c] w (OpsOut 1 a b c w) := by
  rcases h with rfl | rfl | rfl
  all_goals
    go_enter Tryd.func62, Tryd.ntmps62
    go_wp2
    go_ret
    refine ⟨_, rfl, fun i hi => ?_, ?_⟩
    · have h3 : i = 0 := by omega
      subst h3; (unfold opnd; go_simp; done)
    repeat' (first | with_reducible exact Below.refl _ _ | with_reducible assumption | with_reducible refine Below.drew ?_ | with_reducible refine bdrewN ?_ _ | with_reducible refine Below.alloc ?_ ?_ _ | with_reducible refine Below.setCell ?_ ?_ _ | with_reducible refine Below.trans ?_ (Below.mono (by assumption) ?_) | omega | (simp; done) | (simp; omega))
set_option maxRecDepth 100000 in
set_option maxHeartbeats 400000 in
theorem operands_2 (op md a b c : Nat) (h5 : ((op : Int) == 5) = false) (h6 : ((op : Int) == 6) = false) (h7 : ((op : Int) == 7) = false) (h8 : ((op : Int) == 8) = false) (w : World) : Calls Tryd.prog 62 #[RREC op md a b c] w (OpsOut 2 a b c w) := by
  go_enter Tryd.func62, Tryd.ntmps62
  go_wp2
  go_ret
  refine ⟨_, rfl, fun i hi => ?_, ?_⟩
  · have h3 : i = 0 ∨ i = 1 := by omega
    rcases h3 with rfl | rfl <;> (unfold opnd; go_simp; done)
  repeat' (first | with_reducible exact Below.refl _ _ | with_reducible assumption | with_reducible refine Below.drew ?_ | with_reducible refine bdrewN ?_ _ | with_reducible refine Below.alloc ?_ ?_ _ | with_reducible refine Below.setCell ?_ ?_ _ | with_reducible refine Below.trans ?_ (Below.mono (by assumption) ?_) | omega | (simp; done) | (simp; omega))
theorem operands_any (op md a b c : Nat) (h10 : op ≠ 10) (w : World) : Calls Tryd.prog 62 #[RREC op md a b c] w (OpsOut (nOps op) a b c w) := by
  unfold nOps
  by_cases h5 : op = 5
  · subst h5; rw [if_pos rfl]; exact operands_5 md a b c w
  · rw [if_neg h5]
    by_cases h6 : op = 6 ∨ op = 7 ∨ op = 8
    · rw [if_pos h6]; exact operands_1 op md a b c h6 w
    · rw [if_neg h6, if_neg h10]
      exact operands_2 op md a b c (by rw [beq_eq_false_iff_ne]; omega) (by rw [beq_eq_false_iff_ne]; omega) (by rw [beq_eq_false_iff_ne]; omega) (by rw [beq_eq_false_iff_ne]; omega) w
/-- The first NaN's index. -/
def FirstAt (a b c k : Nat) (F : Int) : Prop := (F = -1 ∧ nanS a b c k = false) ∨ ∃ j : Nat, F = j ∧ j < k ∧ nanS a b c k = true ∧ nanB a b c k = quietN (opnd a b c j)
theorem first_step {a b c k : Nat} {F : Int} (h : FirstAt a b c k F) : (kindN (opnd a b c k) < 4 → FirstAt a b c (k + 1) F) ∧ (4 ≤ kindN (opnd a b c k) → F < 0 → FirstAt a b c (k + 1) k) ∧ (4 ≤ kindN (opnd a b c k) → 0 ≤ F → FirstAt a b c (k + 1) F) := by
  have sS : nanS a b c (k + 1) = (nanS a b c k || decide (4 ≤ kindN (opnd a b c k))) := rfl
  have sB : nanB a b c (k + 1) = if nanS a b c k = false ∧ 4 ≤ kindN (opnd a b c k) then quietN (opnd a b c k) else nanB a b c k := rfl
  unfold FirstAt
  rw [sS, sB]
  rcases h with ⟨rfl, h⟩ | ⟨j, rfl, hj, h1, h2⟩
  · rw [h]
    refine ⟨fun h4 => .inl ⟨rfl, ?_⟩, fun h4 _ => .inr ⟨k, rfl, by omega, ?_, ?_⟩, fun _ h0 => absurd h0 (by decide)⟩
    · rw [decide_eq_false (by omega)]; rfl
    · rw [decide_eq_true h4]; rfl
    · rw [if_pos ⟨rfl, h4⟩]
  · rw [h1]
    refine ⟨fun h4 => .inr ⟨j, rfl, by omega, rfl, ?_⟩, fun _ h0 => absurd h0 (by omega), fun h4 _ => .inr ⟨j, rfl, by omega, rfl, ?_⟩⟩
    · rw [if_neg (by simp)]; exact h2
    · rw [if_neg (by simp)]; exact h2
set_option maxRecDepth 100000 in
set_option maxHeartbeats 6000000 in
theorem rnans_any (op md a b c : Nat) (h10 : op ≠ 10) (ua : U64 a) (ub : U64 b) (uc : U64 c) (w : World) :
    Calls Tryd.prog 45 #[RREC op md a b c] w fun e w' => e = .returned (.tuple #[RV (nanR op a b c (nOps op)).2.1 (nanR op a b c (nOps op)).2.2 false, .bool (nanR op a b c (nOps op)).1]) ∧ Below w.heap.size w w' := by
  have C := Lib.hid (fun W => operands_any op md a b c h10 W)
  obtain ⟨R, hR0⟩ : ∃ R, nanR op a b c (nOps op) = R := ⟨_, rfl⟩
  rw [hR0]
  replace hR0 := Lib.hid hR0
  have hn := nOps_le op
  generalize nOps op = n at *
  go_enter Tryd.func45, Tryd.ntmps45
  go_wp2_with fail
  refine (C.out _).mono ?_
  rintro e w0 ⟨g, rfl, hx, hb0⟩
  have hz0 := hb0.size
  have hk : (w0.cell? ⟨w.heap.size, 0, none⟩ = some (.int .i64 op) ∧ w0.cell? ⟨w.heap.size, 1, none⟩ = some (.int .i64 md) ∧ w0.cell? ⟨w.heap.size, 2, none⟩ = some (.int .u64 a) ∧ w0.cell? ⟨w.heap.size, 3, none⟩ = some (.int .u64 b) ∧ w0.cell? ⟨w.heap.size, 4, none⟩ = some (.int .u64 c)) ∧ (w0.cell? ⟨w.heap.size + 1, 0, none⟩ = some (.int .u64 0) ∧ w0.cell? ⟨w.heap.size + 1, 1, none⟩ = some (.int .i64 0) ∧ w0.cell? ⟨w.heap.size + 1, 2, none⟩ = some (.bool false)) ∧ (w0.frozen? ⟨w.heap.size + 1, 0, none⟩ = false ∧ w0.frozen? ⟨w.heap.size + 1, 1, none⟩ = false ∧ w0.frozen? ⟨w.heap.size + 1, 2, none⟩ = false) := by
    refine ⟨⟨?_, ?_, ?_, ?_, ?_⟩, ⟨?_, ?_, ?_⟩, ?_, ?_, ?_⟩
    all_goals first | (rw [hb0.cell (by first | (simp; done) | (simp; omega))]; go_simp; done) | (rw [hb0.frozen (by first | (simp; done) | (simp; omega))]; go_simp; done)
  have hB : Below w.heap.size w w0 := by
    have h1 : Below w.heap.size w ((w.alloc (.cells #[.int .i64 op, .int .i64 md, .int .u64 a, .int .u64 b, .int .u64 c] 68)).alloc (.cells #[.int .u64 0, .int .i64 0, .bool false] 66)) := ((Below.refl _ w).alloc (by simp) _).alloc (by simp) _
    exact h1.trans (hb0.mono h1.size)
  obtain ⟨⟨r0, r1, r2, r3, r4⟩, ⟨o0, o1, o2⟩, p0, p1, p2⟩ := hk
  clear hb0 C hz0
  go_wp2_with fail
  go_loopw [5, 6, 7, 8] (fun f l i _ wr => ∃ (k : Nat) (F : Int), i = .int .i64 k ∧ k ≤ n ∧ f = .int .i64 F ∧ Hid (FirstAt a b c k F) ∧ l = .int .i64 (nanF a b c k) ∧ w0 = wr) (fun _ _ i _ _ => n - (intOf i).toNat)
  case atStart => exact ⟨0, -1, rfl, Nat.zero_le _, rfl, .inl ⟨rfl, rfl⟩, rfl, rfl⟩
  case round =>
    obtain ⟨k, F, rfl, hk, rfl, hF, rfl, rfl⟩ := hrel
    by_cases hkn : k < n
    · have hxk := hx k hkn
      have ux := opnd_u (i := k) ua ub uc
      have sF : nanF a b c (k + 1) = if kindN (opnd a b c k) = 5 then 16 else nanF a b c k := rfl
      have KC := Lib.hid (fun W => kind_any (opnd a b c k) ux W)
      have h6 := kindN_lt (opnd a b c k)
      obtain ⟨s1, s2, s3⟩ := first_step hF.out
      have rel : ∀ (F' : Int), FirstAt a b c (k + 1) F' → ∀ l, l = nanF a b c (k + 1) → ∃ (k' : Nat) (F'' : Int), Value.int .i64 ((k : Int) + 1) = .int .i64 k' ∧ k' ≤ n ∧ Value.int .i64 F' = .int .i64 F'' ∧ Hid (FirstAt a b c k' F'') ∧ Value.int .i64 (l : Nat) = .int .i64 (nanF a b c k') ∧ w0 = w0 := fun F' h l hl => ⟨k + 1, F', rfl, hkn, rfl, h, by rw [hl], rfl⟩
      rw [sF] at rel
      replace rel := Lib.hid rel
      replace s1 := Lib.hid s1
      replace s2 := Lib.hid s2
      replace s3 := Lib.hid s3
      clear sF hx ux hF
      generalize nanF a b c k = fl at *
      generalize opnd a b c k = x at *
      generalize kindN x = K at *
      have hcs : K < 4 ∨ K = 4 ∨ K = 5 := by omega
      rcases hcs with h4 | rfl | rfl
      · rw [if_neg (by omega)] at rel
        have h4a : decide ((4 : Int) ≤ K) = false := decide_eq_false (by omega)
        have h4b : ((K : Int) == 5) = false := by rw [beq_eq_false_iff_ne]; omega
        go_wp2_with (go_at_call 43; refine (KC.out _).mono ?_; rintro e w' ⟨rfl, rfl⟩)
        go_roundw
        case rel => exact rel.out _ (s1.out h4) _ rfl
        case measure => simp [intOf]; omega
      · rw [if_neg (show ¬ 4 = 5 by decide)] at rel
        by_cases hF0 : F < 0
        · go_wp2_with (go_at_call 43; refine (KC.out _).mono ?_; rintro e w' ⟨rfl, rfl⟩)
          go_roundw
          case rel => exact rel.out _ (s2.out (Nat.le_refl _) hF0) _ rfl
          case measure => simp [intOf]; omega
        · go_wp2_with (go_at_call 43; refine (KC.out _).mono ?_; rintro e w' ⟨rfl, rfl⟩)
          go_roundw
          case rel => exact rel.out _ (s3.out (Nat.le_refl _) (by omega)) _ rfl
          case measure => simp [intOf]; omega
      · rw [if_pos rfl] at rel
        by_cases hF0 : F < 0
        · go_wp2_with (go_at_call 43; refine (KC.out _).mono ?_; rintro e w' ⟨rfl, rfl⟩)
          go_roundw
          case rel => exact rel.out _ (s2.out (by decide) hF0) 16 rfl
          case measure => simp [intOf]; omega
        · go_wp2_with (go_at_call 43; refine (KC.out _).mono ?_; rintro e w' ⟨rfl, rfl⟩)
          go_roundw
          case rel => exact rel.out _ (s3.out (by decide) (by omega)) 16 rfl
          case measure => simp [intOf]; omega
    · obtain rfl : k = n := by omega
      clear hkn hk
      rcases hF.out with ⟨rfl, hS⟩ | ⟨j, rfl, hj, hS, hB2⟩
      · have hR := nanR_no (op := op) hS
        rw [hR0.out] at hR
        subst hR
        obtain ⟨z1, z2⟩ := nanS_no hS
        rw [z2]
        clear hS hR0 hF
        go_wp2_with fail
        refine bodyPost_ret (v := .tuple #[RV 0 0 false, .bool false]) (by simp [results, Tryd.results45, go_sem, *]) rfl ⟨rfl, ?_⟩
        repeat' (first | with_reducible exact Below.refl _ _ | with_reducible assumption | with_reducible refine Below.drew ?_ | with_reducible refine bdrewN ?_ _ | with_reducible refine Below.alloc ?_ ?_ _ | with_reducible refine Below.setCell ?_ ?_ _ | with_reducible refine Below.trans ?_ (Below.mono (by assumption) ?_) | omega | (simp; done) | (simp; omega))
      · have hxj := hx j hj
        have hor := quiet_or (opnd_u (i := j) ua ub uc)
        have hR : R = (if op = 5 ∧ kindN c = 4 ∧ ((kindN a = 0 ∧ kindN b = 3) ∨ (kindN a = 3 ∧ kindN b = 0)) then (true, 9221120237041090560, 16)
            else if op = 9 ∧ nanF a b c k = 0 ∧ (kindN a = 3 ∨ kindN b = 3) then (true, 9218868437227405312, 0) else (true, nanB a b c k, nanF a b c k)) := by rw [← hR0.out]; unfold nanR; rw [if_neg (by rw [hS]; decide)]
        replace hR := Lib.hid hR
        rw [← hB2] at hor
        have Ka := Lib.hid (fun W => kind_any a ua W)
        have Kb := Lib.hid (fun W => kind_any b ub W)
        have Kc := Lib.hid (fun W => kind_any c uc W)
        clear hR0 hF hx hS hB2 ua ub uc
        generalize nanB a b c k = bt at *
        generalize nanF a b c k = fl at *
        generalize opnd a b c j = x at *
        generalize kindN a = ka at *
        generalize kindN b = kb at *
        generalize kindN c = kc at *
        by_cases h5 : op = 5
        · subst h5
          by_cases hc4 : kc = 4
          · subst hc4
            by_cases ha : ka = 0 ∧ kb = 3
            · obtain ⟨rfl, rfl⟩ := ha
              obtain rfl : R = (true, 9221120237041090560, 16) := by rw [hR.out]; simp
              clear hR
              go_wp2_with (first | (go_at_call_of 43 (Value.int IntKind.u64 a); refine (Ka.out _).mono ?_; rintro e w' ⟨rfl, rfl⟩) | (go_at_call_of 43 (Value.int IntKind.u64 b); refine (Kb.out _).mono ?_; rintro e w' ⟨rfl, rfl⟩) | (go_at_call_of 43 (Value.int IntKind.u64 c); refine (Kc.out _).mono ?_; rintro e w' ⟨rfl, rfl⟩))
              all_goals refine bodyPost_ret (v := .tuple #[RV 9221120237041090560 16 false, .bool true]) (by simp [results, Tryd.results45, go_sem, *]) rfl ⟨rfl, ?_⟩
              repeat' (first | with_reducible exact Below.refl _ _ | with_reducible assumption | with_reducible refine Below.drew ?_ | with_reducible refine bdrewN ?_ _ | with_reducible refine Below.alloc ?_ ?_ _ | with_reducible refine Below.setCell ?_ ?_ _ | with_reducible refine Below.trans ?_ (Below.mono (by assumption) ?_) | omega | (simp; done) | (simp; omega))
            · by_cases hb : ka = 3 ∧ kb = 0
              · obtain ⟨rfl, rfl⟩ := hb
                obtain rfl : R = (true, 9221120237041090560, 16) := by rw [hR.out]; simp
                clear hR
                go_wp2_with (first | (go_at_call_of 43 (Value.int IntKind.u64 a); refine (Ka.out _).mono ?_; rintro e w' ⟨rfl, rfl⟩) | (go_at_call_of 43 (Value.int IntKind.u64 b); refine (Kb.out _).mono ?_; rintro e w' ⟨rfl, rfl⟩) | (go_at_call_of 43 (Value.int IntKind.u64 c); refine (Kc.out _).mono ?_; rintro e w' ⟨rfl, rfl⟩))
                all_goals refine bodyPost_ret (v := .tuple #[RV 9221120237041090560 16 false, .bool true]) (by simp [results, Tryd.results45, go_sem, *]) rfl ⟨rfl, ?_⟩
                repeat' (first | with_reducible exact Below.refl _ _ | with_reducible assumption | with_reducible refine Below.drew ?_ | with_reducible refine bdrewN ?_ _ | with_reducible refine Below.alloc ?_ ?_ _ | with_reducible refine Below.setCell ?_ ?_ _ | with_reducible refine Below.trans ?_ (Below.mono (by assumption) ?_) | omega | (simp; done) | (simp; omega))
              · have f1 : ((ka : Int) == 0 && (kb : Int) == 3) = false := by rw [Bool.and_eq_false_iff, beq_eq_false_iff_ne, beq_eq_false_iff_ne]; omega
                have f2 : ((ka : Int) == 3 && (kb : Int) == 0) = false := by rw [Bool.and_eq_false_iff, beq_eq_false_iff_ne, beq_eq_false_iff_ne]; omega
                obtain rfl : R = (true, bt, fl) := by rw [hR.out]; rw [if_neg (by omega), if_neg (by omega)]
                clear hR
                go_wp2_with (first | (go_at_call_of 43 (Value.int IntKind.u64 a); refine (Ka.out _).mono ?_; rintro e w' ⟨rfl, rfl⟩) | (go_at_call_of 43 (Value.int IntKind.u64 b); refine (Kb.out _).mono ?_; rintro e w' ⟨rfl, rfl⟩) | (go_at_call_of 43 (Value.int IntKind.u64 c); refine (Kc.out _).mono ?_; rintro e w' ⟨rfl, rfl⟩))
                all_goals refine bodyPost_ret (v := .tuple #[RV bt fl false, .bool true]) (by simp [results, Tryd.results45, go_sem, *]) rfl ⟨rfl, ?_⟩
                repeat' (first | with_reducible exact Below.refl _ _ | with_reducible assumption | with_reducible refine Below.drew ?_ | with_reducible refine bdrewN ?_ _ | with_reducible refine Below.alloc ?_ ?_ _ | with_reducible refine Below.setCell ?_ ?_ _ | with_reducible refine Below.trans ?_ (Below.mono (by assumption) ?_) | omega | (simp; done) | (simp; omega))
          · have f1 : ((kc : Int) == 4) = false := by rw [beq_eq_false_iff_ne]; omega
            obtain rfl : R = (true, bt, fl) := by rw [hR.out]; rw [if_neg (by omega), if_neg (by omega)]
            clear hR
            go_wp2_with (first | (go_at_call_of 43 (Value.int IntKind.u64 a); refine (Ka.out _).mono ?_; rintro e w' ⟨rfl, rfl⟩) | (go_at_call_of 43 (Value.int IntKind.u64 b); refine (Kb.out _).mono ?_; rintro e w' ⟨rfl, rfl⟩) | (go_at_call_of 43 (Value.int IntKind.u64 c); refine (Kc.out _).mono ?_; rintro e w' ⟨rfl, rfl⟩))
            all_goals refine bodyPost_ret (v := .tuple #[RV bt fl false, .bool true]) (by simp [results, Tryd.results45, go_sem, *]) rfl ⟨rfl, ?_⟩
            repeat' (first | with_reducible exact Below.refl _ _ | with_reducible assumption | with_reducible refine Below.drew ?_ | with_reducible refine bdrewN ?_ _ | with_reducible refine Below.alloc ?_ ?_ _ | with_reducible refine Below.setCell ?_ ?_ _ | with_reducible refine Below.trans ?_ (Below.mono (by assumption) ?_) | omega | (simp; done) | (simp; omega))
        · have f5 : ((op : Int) == 5) = false := by rw [beq_eq_false_iff_ne]; omega
          by_cases h9 : op = 9
          · subst h9
            by_cases hf0 : fl = 0
            · subst hf0
              by_cases ha : ka = 3
              · subst ha
                obtain rfl : R = (true, 9218868437227405312, 0) := by rw [hR.out]; simp
                clear hR
                go_wp2_with (first | (go_at_call_of 43 (Value.int IntKind.u64 a); refine (Ka.out _).mono ?_; rintro e w' ⟨rfl, rfl⟩) | (go_at_call_of 43 (Value.int IntKind.u64 b); refine (Kb.out _).mono ?_; rintro e w' ⟨rfl, rfl⟩) | (go_at_call_of 43 (Value.int IntKind.u64 c); refine (Kc.out _).mono ?_; rintro e w' ⟨rfl, rfl⟩))
                all_goals refine bodyPost_ret (v := .tuple #[RV 9218868437227405312 0 false, .bool true]) (by simp [results, Tryd.results45, go_sem, *]) rfl ⟨rfl, ?_⟩
                repeat' (first | with_reducible exact Below.refl _ _ | with_reducible assumption | with_reducible refine Below.drew ?_ | with_reducible refine bdrewN ?_ _ | with_reducible refine Below.alloc ?_ ?_ _ | with_reducible refine Below.setCell ?_ ?_ _ | with_reducible refine Below.trans ?_ (Below.mono (by assumption) ?_) | omega | (simp; done) | (simp; omega))
              · have f1 : ((ka : Int) == 3) = false := by rw [beq_eq_false_iff_ne]; omega
                by_cases hb : kb = 3
                · subst hb
                  obtain rfl : R = (true, 9218868437227405312, 0) := by rw [hR.out]; simp
                  clear hR
                  go_wp2_with (first | (go_at_call_of 43 (Value.int IntKind.u64 a); refine (Ka.out _).mono ?_; rintro e w' ⟨rfl, rfl⟩) | (go_at_call_of 43 (Value.int IntKind.u64 b); refine (Kb.out _).mono ?_; rintro e w' ⟨rfl, rfl⟩) | (go_at_call_of 43 (Value.int IntKind.u64 c); refine (Kc.out _).mono ?_; rintro e w' ⟨rfl, rfl⟩))
                  all_goals refine bodyPost_ret (v := .tuple #[RV 9218868437227405312 0 false, .bool true]) (by simp [results, Tryd.results45, go_sem, *]) rfl ⟨rfl, ?_⟩
                  repeat' (first | with_reducible exact Below.refl _ _ | with_reducible assumption | with_reducible refine Below.drew ?_ | with_reducible refine bdrewN ?_ _ | with_reducible refine Below.alloc ?_ ?_ _ | with_reducible refine Below.setCell ?_ ?_ _ | with_reducible refine Below.trans ?_ (Below.mono (by assumption) ?_) | omega | (simp; done) | (simp; omega))
                · have f2 : ((kb : Int) == 3) = false := by rw [beq_eq_false_iff_ne]; omega
                  obtain rfl : R = (true, bt, 0) := by rw [hR.out]; rw [if_neg (by omega), if_neg (by omega)]
                  clear hR
                  go_wp2_with (first | (go_at_call_of 43 (Value.int IntKind.u64 a); refine (Ka.out _).mono ?_; rintro e w' ⟨rfl, rfl⟩) | (go_at_call_of 43 (Value.int IntKind.u64 b); refine (Kb.out _).mono ?_; rintro e w' ⟨rfl, rfl⟩) | (go_at_call_of 43 (Value.int IntKind.u64 c); refine (Kc.out _).mono ?_; rintro e w' ⟨rfl, rfl⟩))
                  all_goals refine bodyPost_ret (v := .tuple #[RV bt 0 false, .bool true]) (by simp [results, Tryd.results45, go_sem, *]) rfl ⟨rfl, ?_⟩
                  repeat' (first | with_reducible exact Below.refl _ _ | with_reducible assumption | with_reducible refine Below.drew ?_ | with_reducible refine bdrewN ?_ _ | with_reducible refine Below.alloc ?_ ?_ _ | with_reducible refine Below.setCell ?_ ?_ _ | with_reducible refine Below.trans ?_ (Below.mono (by assumption) ?_) | omega | (simp; done) | (simp; omega))
            · have f1 : ((fl : Int) == 0) = false := by rw [beq_eq_false_iff_ne]; omega
              obtain rfl : R = (true, bt, fl) := by rw [hR.out]; rw [if_neg (by omega), if_neg (by omega)]
              clear hR
              go_wp2_with (first | (go_at_call_of 43 (Value.int IntKind.u64 a); refine (Ka.out _).mono ?_; rintro e w' ⟨rfl, rfl⟩) | (go_at_call_of 43 (Value.int IntKind.u64 b); refine (Kb.out _).mono ?_; rintro e w' ⟨rfl, rfl⟩) | (go_at_call_of 43 (Value.int IntKind.u64 c); refine (Kc.out _).mono ?_; rintro e w' ⟨rfl, rfl⟩))
              all_goals refine bodyPost_ret (v := .tuple #[RV bt fl false, .bool true]) (by simp [results, Tryd.results45, go_sem, *]) rfl ⟨rfl, ?_⟩
              repeat' (first | with_reducible exact Below.refl _ _ | with_reducible assumption | with_reducible refine Below.drew ?_ | with_reducible refine bdrewN ?_ _ | with_reducible refine Below.alloc ?_ ?_ _ | with_reducible refine Below.setCell ?_ ?_ _ | with_reducible refine Below.trans ?_ (Below.mono (by assumption) ?_) | omega | (simp; done) | (simp; omega))
          · have f9 : ((op : Int) == 9) = false := by rw [beq_eq_false_iff_ne]; omega
            obtain rfl : R = (true, bt, fl) := by rw [hR.out]; rw [if_neg (by omega), if_neg (by omega)]
            clear hR
            go_wp2_with (first | (go_at_call_of 43 (Value.int IntKind.u64 a); refine (Ka.out _).mono ?_; rintro e w' ⟨rfl, rfl⟩) | (go_at_call_of 43 (Value.int IntKind.u64 b); refine (Kb.out _).mono ?_; rintro e w' ⟨rfl, rfl⟩) | (go_at_call_of 43 (Value.int IntKind.u64 c); refine (Kc.out _).mono ?_; rintro e w' ⟨rfl, rfl⟩))
            all_goals refine bodyPost_ret (v := .tuple #[RV bt fl false, .bool true]) (by simp [results, Tryd.results45, go_sem, *]) rfl ⟨rfl, ?_⟩
            repeat' (first | with_reducible exact Below.refl _ _ | with_reducible assumption | with_reducible refine Below.drew ?_ | with_reducible refine bdrewN ?_ _ | with_reducible refine Below.alloc ?_ ?_ _ | with_reducible refine Below.setCell ?_ ?_ _ | with_reducible refine Below.trans ?_ (Below.mono (by assumption) ?_) | omega | (simp; done) | (simp; omega))
end Go.Proofs.YtldmbneckcjonaaDoor
namespace Go.Proofs.YtldmbneckcjonaaDoor
open Go.RowKit
def RefOutB (b f : Nat) (bad : Bool) (w : World) (e : Ending) (w' : World) : Prop := e = .returned (RV b f bad) ∧ Below w.heap.size w w'
set_option maxRecDepth 100000 in
set_option maxHeartbeats 400000 in
theorem rDo_zero (op md a b c : Nat) (h : decide ((op : Int) < 1) = true) (w : World) : Calls Tryd.prog 35 #[RREC op md a b c] w (RefOutB 0 0 true w) := by
  go_enter Tryd.func35, Tryd.ntmps35
  go_wp2_with fail
  refine bodyPost_ret (v := RV 0 0 true) (by simp [results, Tryd.results35, go_sem, *]) rfl ⟨rfl, ?_⟩
  repeat' (first | with_reducible exact Below.refl _ _ | with_reducible assumption | with_reducible refine Below.drew ?_ | with_reducible refine bdrewN ?_ _ | with_reducible refine Below.alloc ?_ ?_ _ | with_reducible refine Below.setCell ?_ ?_ _ | with_reducible refine Below.trans ?_ (Below.mono (by assumption) ?_) | omega | (simp; done) | (simp; omega))
set_option maxRecDepth 100000 in
set_option maxHeartbeats 400000 in
theorem rDo_many (op md a b c : Nat) (h : 11 ≤ op) (w : World) : Calls Tryd.prog 35 #[RREC op md a b c] w (RefOutB 0 0 true w) := by
  have f1 : decide ((op : Int) < 1) = false := decide_eq_false (by omega)
  have f2 : decide ((10 : Int) < op) = true := decide_eq_true (by omega)
  go_enter Tryd.func35, Tryd.ntmps35
  go_wp2_with fail
  refine bodyPost_ret (v := RV 0 0 true) (by simp [results, Tryd.results35, go_sem, *]) rfl ⟨rfl, ?_⟩
  repeat' (first | with_reducible exact Below.refl _ _ | with_reducible assumption | with_reducible refine Below.drew ?_ | with_reducible refine bdrewN ?_ _ | with_reducible refine Below.alloc ?_ ?_ _ | with_reducible refine Below.setCell ?_ ?_ _ | with_reducible refine Below.trans ?_ (Below.mono (by assumption) ?_) | omega | (simp; done) | (simp; omega))
set_option maxRecDepth 100000 in
set_option maxHeartbeats 400000 in
theorem rDo_mode (op md a b c : Nat) (h0 : op ≠ 0) (h1 : op < 11) (h : 5 ≤ md) (w : World) : Calls Tryd.prog 35 #[RREC op md a b c] w (RefOutB 0 0 true w) := by
  have f1 : decide ((op : Int) < 1) = false := decide_eq_false (by omega)
  have f2 : decide ((10 : Int) < op) = false := decide_eq_false (by omega)
  have f3 : decide ((4 : Int) < md) = true := decide_eq_true (by omega)
  go_enter Tryd.func35, Tryd.ntmps35
  go_wp2_with fail
  refine bodyPost_ret (v := RV 0 0 true) (by simp [results, Tryd.results35, go_sem, *]) rfl ⟨rfl, ?_⟩
  repeat' (first | with_reducible exact Below.refl _ _ | with_reducible assumption | with_reducible refine Below.drew ?_ | with_reducible refine bdrewN ?_ _ | with_reducible refine Below.alloc ?_ ?_ _ | with_reducible refine Below.setCell ?_ ?_ _ | with_reducible refine Below.trans ?_ (Below.mono (by assumption) ?_) | omega | (simp; done) | (simp; omega))
set_option maxRecDepth 100000 in
set_option maxHeartbeats 400000 in
theorem rDo_clear (md a b c : Nat) (h : ¬ 5 ≤ md) (w : World) : Calls Tryd.prog 35 #[RREC 10 md a b c] w (RefOutB 0 0 false w) := by
  have f3 : decide ((4 : Int) < md) = false := decide_eq_false (by omega)
  go_enter Tryd.func35, Tryd.ntmps35
  go_wp2_with fail
  refine bodyPost_ret (v := RV 0 0 false) (by simp [results, Tryd.results35, go_sem, *]) rfl ⟨rfl, ?_⟩
  repeat' (first | with_reducible exact Below.refl _ _ | with_reducible assumption | with_reducible refine Below.drew ?_ | with_reducible refine bdrewN ?_ _ | with_reducible refine Below.alloc ?_ ?_ _ | with_reducible refine Below.setCell ?_ ?_ _ | with_reducible refine Below.trans ?_ (Below.mono (by assumption) ?_) | omega | (simp; done) | (simp; omega))
set_option maxRecDepth 100000 in
set_option maxHeartbeats 400000 in
theorem rDo_nan (op md a b c bt fl : Nat) (h0 : op ≠ 0) (h1 : op < 10) (h : ¬ 5 ≤ md) (ua : U64 a) (ub : U64 b) (uc : U64 c) (hR : nanR op a b c (nOps op) = (true, bt, fl)) (w : World) : Calls Tryd.prog 35 #[RREC op md a b c] w (RefOutB bt fl false w) := by
  have f1 : decide ((op : Int) < 1) = false := decide_eq_false (by omega)
  have f2 : decide ((10 : Int) < op) = false := decide_eq_false (by omega)
  have f3 : decide ((4 : Int) < md) = false := decide_eq_false (by omega)
  have f4 : ((op : Int) == 10) = false := by rw [beq_eq_false_iff_ne]; omega
  have C := Lib.hid (fun W => rnans_any op md a b c (by omega) ua ub uc W)
  rw [hR] at C
  clear hR h ua ub uc
  go_enter Tryd.func35, Tryd.ntmps35
  go_wp2_with fail
  refine (C.out _).mono ?_
  rintro e w1 ⟨rfl, hb1⟩; have hz_w1 := (hb1).size; (try simp at hz_w1); have hl_w1_0 : w.heap.size < w1.heap.size := (by omega); have hl_w1_1 : w.heap.size + 1 < w1.heap.size := (by omega); have hk_w1_0_0 : w1.cell? ⟨w.heap.size + 1, 0, none⟩ = some (.int .u64 0) := (by rw [hb1.cell (p := ⟨w.heap.size + 1, 0, none⟩) (by first | omega | (simp; done) | (simp; omega))]; go_simp; done); have hg_w1_0_0 : w1.frozen? ⟨w.heap.size + 1, 0, none⟩ = false := (by rw [hb1.frozen (p := ⟨w.heap.size + 1, 0, none⟩) (by first | omega | (simp; done) | (simp; omega))]; go_simp; done); have hk_w1_0_1 : w1.cell? ⟨w.heap.size + 1, 1, none⟩ = some (.int .i64 0) := (by rw [hb1.cell (p := ⟨w.heap.size + 1, 1, none⟩) (by first | omega | (simp; done) | (simp; omega))]; go_simp; done); have hg_w1_0_1 : w1.frozen? ⟨w.heap.size + 1, 1, none⟩ = false := (by rw [hb1.frozen (p := ⟨w.heap.size + 1, 1, none⟩) (by first | omega | (simp; done) | (simp; omega))]; go_simp; done); have hk_w1_0_2 : w1.cell? ⟨w.heap.size + 1, 2, none⟩ = some (.bool false) := (by rw [hb1.cell (p := ⟨w.heap.size + 1, 2, none⟩) (by first | omega | (simp; done) | (simp; omega))]; go_simp; done); have hg_w1_0_2 : w1.frozen? ⟨w.heap.size + 1, 2, none⟩ = false := (by rw [hb1.frozen (p := ⟨w.heap.size + 1, 2, none⟩) (by first | omega | (simp; done) | (simp; omega))]; go_simp; done)
  go_wp2_with fail
  refine bodyPost_ret (v := RV bt fl false) (by simp [results, Tryd.results35, go_sem, *]) rfl ⟨rfl, ?_⟩
  repeat' (first | with_reducible exact Below.refl _ _ | with_reducible assumption | with_reducible refine Below.drew ?_ | with_reducible refine bdrewN ?_ _ | with_reducible refine Below.alloc ?_ ?_ _ | with_reducible refine Below.setCell ?_ ?_ _ | with_reducible refine Below.trans ?_ (Below.mono (by assumption) ?_) | omega | (simp; done) | (simp; omega))
set_option maxRecDepth 100000 in
set_option maxHeartbeats 1000000 in
theorem rDo_1 (md a b c bt fl : Nat) (h : ¬ 5 ≤ md) (ua : U64 a) (ub : U64 b) (uc : U64 c) (hR : nanR 1 a b c (nOps 1) = (false, 0, 0)) (D : Hid (∀ W, Calls Tryd.prog 46 #[.int .u64 a, .int .u64 b, .int .i64 md] W (RefOutB bt fl false W))) (w : World) :
    Calls Tryd.prog 35 #[RREC 1 md a b c] w (RefOutB bt fl false w) := by
  have f3 : decide ((4 : Int) < md) = false := decide_eq_false (by omega)
  have C := Lib.hid (fun W => rnans_any 1 md a b c (by decide) ua ub uc W)
  rw [hR] at C
  clear hR h ua ub uc
  go_enter Tryd.func35, Tryd.ntmps35
  go_wp2_with fail
  refine (C.out _).mono ?_
  rintro e w1 ⟨rfl, hb1⟩; have hz_w1 := (hb1).size; (try simp at hz_w1); have hl_w1_0 : w.heap.size < w1.heap.size := (by omega); have hl_w1_1 : w.heap.size + 1 < w1.heap.size := (by omega); have hk_w1_0_0 : w1.cell? ⟨w.heap.size + 1, 0, none⟩ = some (.int .u64 0) := (by rw [hb1.cell (p := ⟨w.heap.size + 1, 0, none⟩) (by first | omega | (simp; done) | (simp; omega))]; go_simp; done); have hg_w1_0_0 : w1.frozen? ⟨w.heap.size + 1, 0, none⟩ = false := (by rw [hb1.frozen (p := ⟨w.heap.size + 1, 0, none⟩) (by first | omega | (simp; done) | (simp; omega))]; go_simp; done); have hk_w1_0_1 : w1.cell? ⟨w.heap.size + 1, 1, none⟩ = some (.int .i64 0) := (by rw [hb1.cell (p := ⟨w.heap.size + 1, 1, none⟩) (by first | omega | (simp; done) | (simp; omega))]; go_simp; done); have hg_w1_0_1 : w1.frozen? ⟨w.heap.size + 1, 1, none⟩ = false := (by rw [hb1.frozen (p := ⟨w.heap.size + 1, 1, none⟩) (by first | omega | (simp; done) | (simp; omega))]; go_simp; done); have hk_w1_0_2 : w1.cell? ⟨w.heap.size + 1, 2, none⟩ = some (.bool false) := (by rw [hb1.cell (p := ⟨w.heap.size + 1, 2, none⟩) (by first | omega | (simp; done) | (simp; omega))]; go_simp; done); have hg_w1_0_2 : w1.frozen? ⟨w.heap.size + 1, 2, none⟩ = false := (by rw [hb1.frozen (p := ⟨w.heap.size + 1, 2, none⟩) (by first | omega | (simp; done) | (simp; omega))]; go_simp; done); have hk_w1_1_0 : w1.cell? ⟨w.heap.size, 0, none⟩ = some (.int .i64 1) := (by rw [hb1.cell (p := ⟨w.heap.size, 0, none⟩) (by first | omega | (simp; done) | (simp; omega))]; go_simp; done); have hk_w1_1_1 : w1.cell? ⟨w.heap.size, 1, none⟩ = some (.int .i64 md) := (by rw [hb1.cell (p := ⟨w.heap.size, 1, none⟩) (by first | omega | (simp; done) | (simp; omega))]; go_simp; done); have hk_w1_1_2 : w1.cell? ⟨w.heap.size, 2, none⟩ = some (.int .u64 a) := (by rw [hb1.cell (p := ⟨w.heap.size, 2, none⟩) (by first | omega | (simp; done) | (simp; omega))]; go_simp; done); have hk_w1_1_3 : w1.cell? ⟨w.heap.size, 3, none⟩ = some (.int .u64 b) := (by rw [hb1.cell (p := ⟨w.heap.size, 3, none⟩) (by first | omega | (simp; done) | (simp; omega))]; go_simp; done); have hk_w1_1_4 : w1.cell? ⟨w.heap.size, 4, none⟩ = some (.int .u64 c) := (by rw [hb1.cell (p := ⟨w.heap.size, 4, none⟩) (by first | omega | (simp; done) | (simp; omega))]; go_simp; done)
  go_wp2_with fail
  refine (D.out _).mono ?_
  rintro e w2 ⟨rfl, hb2⟩; have hz_w2 := (hb2).size; (try simp at hz_w2); have hl_w2_0 : w.heap.size < w2.heap.size := (by omega); have hl_w2_1 : w.heap.size + 1 < w2.heap.size := (by omega); have hk_w2_0_0 : w2.cell? ⟨w.heap.size + 1, 0, none⟩ = some (.int .u64 0) := (by rw [hb2.cell (p := ⟨w.heap.size + 1, 0, none⟩) (by first | omega | (simp; done) | (simp; omega))]; go_simp; done); have hg_w2_0_0 : w2.frozen? ⟨w.heap.size + 1, 0, none⟩ = false := (by rw [hb2.frozen (p := ⟨w.heap.size + 1, 0, none⟩) (by first | omega | (simp; done) | (simp; omega))]; go_simp; done); have hk_w2_0_1 : w2.cell? ⟨w.heap.size + 1, 1, none⟩ = some (.int .i64 0) := (by rw [hb2.cell (p := ⟨w.heap.size + 1, 1, none⟩) (by first | omega | (simp; done) | (simp; omega))]; go_simp; done); have hg_w2_0_1 : w2.frozen? ⟨w.heap.size + 1, 1, none⟩ = false := (by rw [hb2.frozen (p := ⟨w.heap.size + 1, 1, none⟩) (by first | omega | (simp; done) | (simp; omega))]; go_simp; done); have hk_w2_0_2 : w2.cell? ⟨w.heap.size + 1, 2, none⟩ = some (.bool false) := (by rw [hb2.cell (p := ⟨w.heap.size + 1, 2, none⟩) (by first | omega | (simp; done) | (simp; omega))]; go_simp; done); have hg_w2_0_2 : w2.frozen? ⟨w.heap.size + 1, 2, none⟩ = false := (by rw [hb2.frozen (p := ⟨w.heap.size + 1, 2, none⟩) (by first | omega | (simp; done) | (simp; omega))]; go_simp; done)
  go_wp2_with fail
  refine bodyPost_ret (v := RV bt fl false) (by simp [results, Tryd.results35, go_sem, *]) rfl ⟨rfl, ?_⟩
  repeat' (first | with_reducible exact Below.refl _ _ | with_reducible assumption | with_reducible refine Below.drew ?_ | with_reducible refine bdrewN ?_ _ | with_reducible refine Below.alloc ?_ ?_ _ | with_reducible refine Below.setCell ?_ ?_ _ | with_reducible refine Below.trans ?_ (Below.mono (by assumption) ?_) | omega | (simp; done) | (simp; omega))
set_option maxRecDepth 100000 in
set_option maxHeartbeats 1000000 in
theorem rDo_3 (md a b c bt fl : Nat) (h : ¬ 5 ≤ md) (ua : U64 a) (ub : U64 b) (uc : U64 c) (hR : nanR 3 a b c (nOps 3) = (false, 0, 0)) (D : Hid (∀ W, Calls Tryd.prog 47 #[.int .u64 a, .int .u64 b, .int .i64 md] W (RefOutB bt fl false W))) (w : World) :
    Calls Tryd.prog 35 #[RREC 3 md a b c] w (RefOutB bt fl false w) := by
  have f3 : decide ((4 : Int) < md) = false := decide_eq_false (by omega)
  have C := Lib.hid (fun W => rnans_any 3 md a b c (by decide) ua ub uc W)
  rw [hR] at C
  clear hR h ua ub uc
  go_enter Tryd.func35, Tryd.ntmps35
  go_wp2_with fail
  refine (C.out _).mono ?_
  rintro e w1 ⟨rfl, hb1⟩; have hz_w1 := (hb1).size; (try simp at hz_w1); have hl_w1_0 : w.heap.size < w1.heap.size := (by omega); have hl_w1_1 : w.heap.size + 1 < w1.heap.size := (by omega); have hk_w1_0_0 : w1.cell? ⟨w.heap.size + 1, 0, none⟩ = some (.int .u64 0) := (by rw [hb1.cell (p := ⟨w.heap.size + 1, 0, none⟩) (by first | omega | (simp; done) | (simp; omega))]; go_simp; done); have hg_w1_0_0 : w1.frozen? ⟨w.heap.size + 1, 0, none⟩ = false := (by rw [hb1.frozen (p := ⟨w.heap.size + 1, 0, none⟩) (by first | omega | (simp; done) | (simp; omega))]; go_simp; done); have hk_w1_0_1 : w1.cell? ⟨w.heap.size + 1, 1, none⟩ = some (.int .i64 0) := (by rw [hb1.cell (p := ⟨w.heap.size + 1, 1, none⟩) (by first | omega | (simp; done) | (simp; omega))]; go_simp; done); have hg_w1_0_1 : w1.frozen? ⟨w.heap.size + 1, 1, none⟩ = false := (by rw [hb1.frozen (p := ⟨w.heap.size + 1, 1, none⟩) (by first | omega | (simp; done) | (simp; omega))]; go_simp; done); have hk_w1_0_2 : w1.cell? ⟨w.heap.size + 1, 2, none⟩ = some (.bool false) := (by rw [hb1.cell (p := ⟨w.heap.size + 1, 2, none⟩) (by first | omega | (simp; done) | (simp; omega))]; go_simp; done); have hg_w1_0_2 : w1.frozen? ⟨w.heap.size + 1, 2, none⟩ = false := (by rw [hb1.frozen (p := ⟨w.heap.size + 1, 2, none⟩) (by first | omega | (simp; done) | (simp; omega))]; go_simp; done); have hk_w1_1_0 : w1.cell? ⟨w.heap.size, 0, none⟩ = some (.int .i64 3) := (by rw [hb1.cell (p := ⟨w.heap.size, 0, none⟩) (by first | omega | (simp; done) | (simp; omega))]; go_simp; done); have hk_w1_1_1 : w1.cell? ⟨w.heap.size, 1, none⟩ = some (.int .i64 md) := (by rw [hb1.cell (p := ⟨w.heap.size, 1, none⟩) (by first | omega | (simp; done) | (simp; omega))]; go_simp; done); have hk_w1_1_2 : w1.cell? ⟨w.heap.size, 2, none⟩ = some (.int .u64 a) := (by rw [hb1.cell (p := ⟨w.heap.size, 2, none⟩) (by first | omega | (simp; done) | (simp; omega))]; go_simp; done); have hk_w1_1_3 : w1.cell? ⟨w.heap.size, 3, none⟩ = some (.int .u64 b) := (by rw [hb1.cell (p := ⟨w.heap.size, 3, none⟩) (by first | omega | (simp; done) | (simp; omega))]; go_simp; done); have hk_w1_1_4 : w1.cell? ⟨w.heap.size, 4, none⟩ = some (.int .u64 c) := (by rw [hb1.cell (p := ⟨w.heap.size, 4, none⟩) (by first | omega | (simp; done) | (simp; omega))]; go_simp; done)
  go_wp2_with fail
  refine (D.out _).mono ?_
  rintro e w2 ⟨rfl, hb2⟩; have hz_w2 := (hb2).size; (try simp at hz_w2); have hl_w2_0 : w.heap.size < w2.heap.size := (by omega); have hl_w2_1 : w.heap.size + 1 < w2.heap.size := (by omega); have hk_w2_0_0 : w2.cell? ⟨w.heap.size + 1, 0, none⟩ = some (.int .u64 0) := (by rw [hb2.cell (p := ⟨w.heap.size + 1, 0, none⟩) (by first | omega | (simp; done) | (simp; omega))]; go_simp; done); have hg_w2_0_0 : w2.frozen? ⟨w.heap.size + 1, 0, none⟩ = false := (by rw [hb2.frozen (p := ⟨w.heap.size + 1, 0, none⟩) (by first | omega | (simp; done) | (simp; omega))]; go_simp; done); have hk_w2_0_1 : w2.cell? ⟨w.heap.size + 1, 1, none⟩ = some (.int .i64 0) := (by rw [hb2.cell (p := ⟨w.heap.size + 1, 1, none⟩) (by first | omega | (simp; done) | (simp; omega))]; go_simp; done); have hg_w2_0_1 : w2.frozen? ⟨w.heap.size + 1, 1, none⟩ = false := (by rw [hb2.frozen (p := ⟨w.heap.size + 1, 1, none⟩) (by first | omega | (simp; done) | (simp; omega))]; go_simp; done); have hk_w2_0_2 : w2.cell? ⟨w.heap.size + 1, 2, none⟩ = some (.bool false) := (by rw [hb2.cell (p := ⟨w.heap.size + 1, 2, none⟩) (by first | omega | (simp; done) | (simp; omega))]; go_simp; done); have hg_w2_0_2 : w2.frozen? ⟨w.heap.size + 1, 2, none⟩ = false := (by rw [hb2.frozen (p := ⟨w.heap.size + 1, 2, none⟩) (by first | omega | (simp; done) | (simp; omega))]; go_simp; done)
  go_wp2_with fail
  refine bodyPost_ret (v := RV bt fl false) (by simp [results, Tryd.results35, go_sem, *]) rfl ⟨rfl, ?_⟩
  repeat' (first | with_reducible exact Below.refl _ _ | with_reducible assumption | with_reducible refine Below.drew ?_ | with_reducible refine bdrewN ?_ _ | with_reducible refine Below.alloc ?_ ?_ _ | with_reducible refine Below.setCell ?_ ?_ _ | with_reducible refine Below.trans ?_ (Below.mono (by assumption) ?_) | omega | (simp; done) | (simp; omega))
set_option maxRecDepth 100000 in
set_option maxHeartbeats 1000000 in
theorem rDo_4 (md a b c bt fl : Nat) (h : ¬ 5 ≤ md) (ua : U64 a) (ub : U64 b) (uc : U64 c) (hR : nanR 4 a b c (nOps 4) = (false, 0, 0)) (D : Hid (∀ W, Calls Tryd.prog 48 #[.int .u64 a, .int .u64 b, .int .i64 md] W (RefOutB bt fl false W))) (w : World) :
    Calls Tryd.prog 35 #[RREC 4 md a b c] w (RefOutB bt fl false w) := by
  have f3 : decide ((4 : Int) < md) = false := decide_eq_false (by omega)
  have C := Lib.hid (fun W => rnans_any 4 md a b c (by decide) ua ub uc W)
  rw [hR] at C
  clear hR h ua ub uc
  go_enter Tryd.func35, Tryd.ntmps35
  go_wp2_with fail
  refine (C.out _).mono ?_
  rintro e w1 ⟨rfl, hb1⟩; have hz_w1 := (hb1).size; (try simp at hz_w1); have hl_w1_0 : w.heap.size < w1.heap.size := (by omega); have hl_w1_1 : w.heap.size + 1 < w1.heap.size := (by omega); have hk_w1_0_0 : w1.cell? ⟨w.heap.size + 1, 0, none⟩ = some (.int .u64 0) := (by rw [hb1.cell (p := ⟨w.heap.size + 1, 0, none⟩) (by first | omega | (simp; done) | (simp; omega))]; go_simp; done); have hg_w1_0_0 : w1.frozen? ⟨w.heap.size + 1, 0, none⟩ = false := (by rw [hb1.frozen (p := ⟨w.heap.size + 1, 0, none⟩) (by first | omega | (simp; done) | (simp; omega))]; go_simp; done); have hk_w1_0_1 : w1.cell? ⟨w.heap.size + 1, 1, none⟩ = some (.int .i64 0) := (by rw [hb1.cell (p := ⟨w.heap.size + 1, 1, none⟩) (by first | omega | (simp; done) | (simp; omega))]; go_simp; done); have hg_w1_0_1 : w1.frozen? ⟨w.heap.size + 1, 1, none⟩ = false := (by rw [hb1.frozen (p := ⟨w.heap.size + 1, 1, none⟩) (by first | omega | (simp; done) | (simp; omega))]; go_simp; done); have hk_w1_0_2 : w1.cell? ⟨w.heap.size + 1, 2, none⟩ = some (.bool false) := (by rw [hb1.cell (p := ⟨w.heap.size + 1, 2, none⟩) (by first | omega | (simp; done) | (simp; omega))]; go_simp; done); have hg_w1_0_2 : w1.frozen? ⟨w.heap.size + 1, 2, none⟩ = false := (by rw [hb1.frozen (p := ⟨w.heap.size + 1, 2, none⟩) (by first | omega | (simp; done) | (simp; omega))]; go_simp; done); have hk_w1_1_0 : w1.cell? ⟨w.heap.size, 0, none⟩ = some (.int .i64 4) := (by rw [hb1.cell (p := ⟨w.heap.size, 0, none⟩) (by first | omega | (simp; done) | (simp; omega))]; go_simp; done); have hk_w1_1_1 : w1.cell? ⟨w.heap.size, 1, none⟩ = some (.int .i64 md) := (by rw [hb1.cell (p := ⟨w.heap.size, 1, none⟩) (by first | omega | (simp; done) | (simp; omega))]; go_simp; done); have hk_w1_1_2 : w1.cell? ⟨w.heap.size, 2, none⟩ = some (.int .u64 a) := (by rw [hb1.cell (p := ⟨w.heap.size, 2, none⟩) (by first | omega | (simp; done) | (simp; omega))]; go_simp; done); have hk_w1_1_3 : w1.cell? ⟨w.heap.size, 3, none⟩ = some (.int .u64 b) := (by rw [hb1.cell (p := ⟨w.heap.size, 3, none⟩) (by first | omega | (simp; done) | (simp; omega))]; go_simp; done); have hk_w1_1_4 : w1.cell? ⟨w.heap.size, 4, none⟩ = some (.int .u64 c) := (by rw [hb1.cell (p := ⟨w.heap.size, 4, none⟩) (by first | omega | (simp; done) | (simp; omega))]; go_simp; done)
  go_wp2_with fail
  refine (D.out _).mono ?_
  rintro e w2 ⟨rfl, hb2⟩; have hz_w2 := (hb2).size; (try simp at hz_w2); have hl_w2_0 : w.heap.size < w2.heap.size := (by omega); have hl_w2_1 : w.heap.size + 1 < w2.heap.size := (by omega); have hk_w2_0_0 : w2.cell? ⟨w.heap.size + 1, 0, none⟩ = some (.int .u64 0) := (by rw [hb2.cell (p := ⟨w.heap.size + 1, 0, none⟩) (by first | omega | (simp; done) | (simp; omega))]; go_simp; done); have hg_w2_0_0 : w2.frozen? ⟨w.heap.size + 1, 0, none⟩ = false := (by rw [hb2.frozen (p := ⟨w.heap.size + 1, 0, none⟩) (by first | omega | (simp; done) | (simp; omega))]; go_simp; done); have hk_w2_0_1 : w2.cell? ⟨w.heap.size + 1, 1, none⟩ = some (.int .i64 0) := (by rw [hb2.cell (p := ⟨w.heap.size + 1, 1, none⟩) (by first | omega | (simp; done) | (simp; omega))]; go_simp; done); have hg_w2_0_1 : w2.frozen? ⟨w.heap.size + 1, 1, none⟩ = false := (by rw [hb2.frozen (p := ⟨w.heap.size + 1, 1, none⟩) (by first | omega | (simp; done) | (simp; omega))]; go_simp; done); have hk_w2_0_2 : w2.cell? ⟨w.heap.size + 1, 2, none⟩ = some (.bool false) := (by rw [hb2.cell (p := ⟨w.heap.size + 1, 2, none⟩) (by first | omega | (simp; done) | (simp; omega))]; go_simp; done); have hg_w2_0_2 : w2.frozen? ⟨w.heap.size + 1, 2, none⟩ = false := (by rw [hb2.frozen (p := ⟨w.heap.size + 1, 2, none⟩) (by first | omega | (simp; done) | (simp; omega))]; go_simp; done)
  go_wp2_with fail
  refine bodyPost_ret (v := RV bt fl false) (by simp [results, Tryd.results35, go_sem, *]) rfl ⟨rfl, ?_⟩
  repeat' (first | with_reducible exact Below.refl _ _ | with_reducible assumption | with_reducible refine Below.drew ?_ | with_reducible refine bdrewN ?_ _ | with_reducible refine Below.alloc ?_ ?_ _ | with_reducible refine Below.setCell ?_ ?_ _ | with_reducible refine Below.trans ?_ (Below.mono (by assumption) ?_) | omega | (simp; done) | (simp; omega))
set_option maxRecDepth 100000 in
set_option maxHeartbeats 1000000 in
theorem rDo_5 (md a b c bt fl : Nat) (h : ¬ 5 ≤ md) (ua : U64 a) (ub : U64 b) (uc : U64 c) (hR : nanR 5 a b c (nOps 5) = (false, 0, 0)) (D : Hid (∀ W, Calls Tryd.prog 49 #[.int .u64 a, .int .u64 b, .int .u64 c, .int .i64 md] W (RefOutB bt fl false W))) (w : World) :
    Calls Tryd.prog 35 #[RREC 5 md a b c] w (RefOutB bt fl false w) := by
  have f3 : decide ((4 : Int) < md) = false := decide_eq_false (by omega)
  have C := Lib.hid (fun W => rnans_any 5 md a b c (by decide) ua ub uc W)
  rw [hR] at C
  clear hR h ua ub uc
  go_enter Tryd.func35, Tryd.ntmps35
  go_wp2_with fail
  refine (C.out _).mono ?_
  rintro e w1 ⟨rfl, hb1⟩; have hz_w1 := (hb1).size; (try simp at hz_w1); have hl_w1_0 : w.heap.size < w1.heap.size := (by omega); have hl_w1_1 : w.heap.size + 1 < w1.heap.size := (by omega); have hk_w1_0_0 : w1.cell? ⟨w.heap.size + 1, 0, none⟩ = some (.int .u64 0) := (by rw [hb1.cell (p := ⟨w.heap.size + 1, 0, none⟩) (by first | omega | (simp; done) | (simp; omega))]; go_simp; done); have hg_w1_0_0 : w1.frozen? ⟨w.heap.size + 1, 0, none⟩ = false := (by rw [hb1.frozen (p := ⟨w.heap.size + 1, 0, none⟩) (by first | omega | (simp; done) | (simp; omega))]; go_simp; done); have hk_w1_0_1 : w1.cell? ⟨w.heap.size + 1, 1, none⟩ = some (.int .i64 0) := (by rw [hb1.cell (p := ⟨w.heap.size + 1, 1, none⟩) (by first | omega | (simp; done) | (simp; omega))]; go_simp; done); have hg_w1_0_1 : w1.frozen? ⟨w.heap.size + 1, 1, none⟩ = false := (by rw [hb1.frozen (p := ⟨w.heap.size + 1, 1, none⟩) (by first | omega | (simp; done) | (simp; omega))]; go_simp; done); have hk_w1_0_2 : w1.cell? ⟨w.heap.size + 1, 2, none⟩ = some (.bool false) := (by rw [hb1.cell (p := ⟨w.heap.size + 1, 2, none⟩) (by first | omega | (simp; done) | (simp; omega))]; go_simp; done); have hg_w1_0_2 : w1.frozen? ⟨w.heap.size + 1, 2, none⟩ = false := (by rw [hb1.frozen (p := ⟨w.heap.size + 1, 2, none⟩) (by first | omega | (simp; done) | (simp; omega))]; go_simp; done); have hk_w1_1_0 : w1.cell? ⟨w.heap.size, 0, none⟩ = some (.int .i64 5) := (by rw [hb1.cell (p := ⟨w.heap.size, 0, none⟩) (by first | omega | (simp; done) | (simp; omega))]; go_simp; done); have hk_w1_1_1 : w1.cell? ⟨w.heap.size, 1, none⟩ = some (.int .i64 md) := (by rw [hb1.cell (p := ⟨w.heap.size, 1, none⟩) (by first | omega | (simp; done) | (simp; omega))]; go_simp; done); have hk_w1_1_2 : w1.cell? ⟨w.heap.size, 2, none⟩ = some (.int .u64 a) := (by rw [hb1.cell (p := ⟨w.heap.size, 2, none⟩) (by first | omega | (simp; done) | (simp; omega))]; go_simp; done); have hk_w1_1_3 : w1.cell? ⟨w.heap.size, 3, none⟩ = some (.int .u64 b) := (by rw [hb1.cell (p := ⟨w.heap.size, 3, none⟩) (by first | omega | (simp; done) | (simp; omega))]; go_simp; done); have hk_w1_1_4 : w1.cell? ⟨w.heap.size, 4, none⟩ = some (.int .u64 c) := (by rw [hb1.cell (p := ⟨w.heap.size, 4, none⟩) (by first | omega | (simp; done) | (simp; omega))]; go_simp; done)
  go_wp2_with fail
  refine (D.out _).mono ?_
  rintro e w2 ⟨rfl, hb2⟩; have hz_w2 := (hb2).size; (try simp at hz_w2); have hl_w2_0 : w.heap.size < w2.heap.size := (by omega); have hl_w2_1 : w.heap.size + 1 < w2.heap.size := (by omega); have hk_w2_0_0 : w2.cell? ⟨w.heap.size + 1, 0, none⟩ = some (.int .u64 0) := (by rw [hb2.cell (p := ⟨w.heap.size + 1, 0, none⟩) (by first | omega | (simp; done) | (simp; omega))]; go_simp; done); have hg_w2_0_0 : w2.frozen? ⟨w.heap.size + 1, 0, none⟩ = false := (by rw [hb2.frozen (p := ⟨w.heap.size + 1, 0, none⟩) (by first | omega | (simp; done) | (simp; omega))]; go_simp; done); have hk_w2_0_1 : w2.cell? ⟨w.heap.size + 1, 1, none⟩ = some (.int .i64 0) := (by rw [hb2.cell (p := ⟨w.heap.size + 1, 1, none⟩) (by first | omega | (simp; done) | (simp; omega))]; go_simp; done); have hg_w2_0_1 : w2.frozen? ⟨w.heap.size + 1, 1, none⟩ = false := (by rw [hb2.frozen (p := ⟨w.heap.size + 1, 1, none⟩) (by first | omega | (simp; done) | (simp; omega))]; go_simp; done); have hk_w2_0_2 : w2.cell? ⟨w.heap.size + 1, 2, none⟩ = some (.bool false) := (by rw [hb2.cell (p := ⟨w.heap.size + 1, 2, none⟩) (by first | omega | (simp; done) | (simp; omega))]; go_simp; done); have hg_w2_0_2 : w2.frozen? ⟨w.heap.size + 1, 2, none⟩ = false := (by rw [hb2.frozen (p := ⟨w.heap.size + 1, 2, none⟩) (by first | omega | (simp; done) | (simp; omega))]; go_simp; done)
  go_wp2_with fail
  refine bodyPost_ret (v := RV bt fl false) (by simp [results, Tryd.results35, go_sem, *]) rfl ⟨rfl, ?_⟩
  repeat' (first | with_reducible exact Below.refl _ _ | with_reducible assumption | with_reducible refine Below.drew ?_ | with_reducible refine bdrewN ?_ _ | with_reducible refine Below.alloc ?_ ?_ _ | with_reducible refine Below.setCell ?_ ?_ _ | with_reducible refine Below.trans ?_ (Below.mono (by assumption) ?_) | omega | (simp; done) | (simp; omega))
set_option maxRecDepth 100000 in
set_option maxHeartbeats 1000000 in
theorem rDo_9 (md a b c bt fl : Nat) (h : ¬ 5 ≤ md) (ua : U64 a) (ub : U64 b) (uc : U64 c) (hR : nanR 9 a b c (nOps 9) = (false, 0, 0)) (D : Hid (∀ W, Calls Tryd.prog 50 #[.int .u64 a, .int .u64 b, .int .i64 md] W (RefOutB bt fl false W))) (w : World) :
    Calls Tryd.prog 35 #[RREC 9 md a b c] w (RefOutB bt fl false w) := by
  have f3 : decide ((4 : Int) < md) = false := decide_eq_false (by omega)
  have C := Lib.hid (fun W => rnans_any 9 md a b c (by decide) ua ub uc W)
  rw [hR] at C
  clear hR h ua ub uc
  go_enter Tryd.func35, Tryd.ntmps35
  go_wp2_with fail
  refine (C.out _).mono ?_
  rintro e w1 ⟨rfl, hb1⟩; have hz_w1 := (hb1).size; (try simp at hz_w1); have hl_w1_0 : w.heap.size < w1.heap.size := (by omega); have hl_w1_1 : w.heap.size + 1 < w1.heap.size := (by omega); have hk_w1_0_0 : w1.cell? ⟨w.heap.size + 1, 0, none⟩ = some (.int .u64 0) := (by rw [hb1.cell (p := ⟨w.heap.size + 1, 0, none⟩) (by first | omega | (simp; done) | (simp; omega))]; go_simp; done); have hg_w1_0_0 : w1.frozen? ⟨w.heap.size + 1, 0, none⟩ = false := (by rw [hb1.frozen (p := ⟨w.heap.size + 1, 0, none⟩) (by first | omega | (simp; done) | (simp; omega))]; go_simp; done); have hk_w1_0_1 : w1.cell? ⟨w.heap.size + 1, 1, none⟩ = some (.int .i64 0) := (by rw [hb1.cell (p := ⟨w.heap.size + 1, 1, none⟩) (by first | omega | (simp; done) | (simp; omega))]; go_simp; done); have hg_w1_0_1 : w1.frozen? ⟨w.heap.size + 1, 1, none⟩ = false := (by rw [hb1.frozen (p := ⟨w.heap.size + 1, 1, none⟩) (by first | omega | (simp; done) | (simp; omega))]; go_simp; done); have hk_w1_0_2 : w1.cell? ⟨w.heap.size + 1, 2, none⟩ = some (.bool false) := (by rw [hb1.cell (p := ⟨w.heap.size + 1, 2, none⟩) (by first | omega | (simp; done) | (simp; omega))]; go_simp; done); have hg_w1_0_2 : w1.frozen? ⟨w.heap.size + 1, 2, none⟩ = false := (by rw [hb1.frozen (p := ⟨w.heap.size + 1, 2, none⟩) (by first | omega | (simp; done) | (simp; omega))]; go_simp; done); have hk_w1_1_0 : w1.cell? ⟨w.heap.size, 0, none⟩ = some (.int .i64 9) := (by rw [hb1.cell (p := ⟨w.heap.size, 0, none⟩) (by first | omega | (simp; done) | (simp; omega))]; go_simp; done); have hk_w1_1_1 : w1.cell? ⟨w.heap.size, 1, none⟩ = some (.int .i64 md) := (by rw [hb1.cell (p := ⟨w.heap.size, 1, none⟩) (by first | omega | (simp; done) | (simp; omega))]; go_simp; done); have hk_w1_1_2 : w1.cell? ⟨w.heap.size, 2, none⟩ = some (.int .u64 a) := (by rw [hb1.cell (p := ⟨w.heap.size, 2, none⟩) (by first | omega | (simp; done) | (simp; omega))]; go_simp; done); have hk_w1_1_3 : w1.cell? ⟨w.heap.size, 3, none⟩ = some (.int .u64 b) := (by rw [hb1.cell (p := ⟨w.heap.size, 3, none⟩) (by first | omega | (simp; done) | (simp; omega))]; go_simp; done); have hk_w1_1_4 : w1.cell? ⟨w.heap.size, 4, none⟩ = some (.int .u64 c) := (by rw [hb1.cell (p := ⟨w.heap.size, 4, none⟩) (by first | omega | (simp; done) | (simp; omega))]; go_simp; done)
  go_wp2_with fail
  refine (D.out _).mono ?_
  rintro e w2 ⟨rfl, hb2⟩; have hz_w2 := (hb2).size; (try simp at hz_w2); have hl_w2_0 : w.heap.size < w2.heap.size := (by omega); have hl_w2_1 : w.heap.size + 1 < w2.heap.size := (by omega); have hk_w2_0_0 : w2.cell? ⟨w.heap.size + 1, 0, none⟩ = some (.int .u64 0) := (by rw [hb2.cell (p := ⟨w.heap.size + 1, 0, none⟩) (by first | omega | (simp; done) | (simp; omega))]; go_simp; done); have hg_w2_0_0 : w2.frozen? ⟨w.heap.size + 1, 0, none⟩ = false := (by rw [hb2.frozen (p := ⟨w.heap.size + 1, 0, none⟩) (by first | omega | (simp; done) | (simp; omega))]; go_simp; done); have hk_w2_0_1 : w2.cell? ⟨w.heap.size + 1, 1, none⟩ = some (.int .i64 0) := (by rw [hb2.cell (p := ⟨w.heap.size + 1, 1, none⟩) (by first | omega | (simp; done) | (simp; omega))]; go_simp; done); have hg_w2_0_1 : w2.frozen? ⟨w.heap.size + 1, 1, none⟩ = false := (by rw [hb2.frozen (p := ⟨w.heap.size + 1, 1, none⟩) (by first | omega | (simp; done) | (simp; omega))]; go_simp; done); have hk_w2_0_2 : w2.cell? ⟨w.heap.size + 1, 2, none⟩ = some (.bool false) := (by rw [hb2.cell (p := ⟨w.heap.size + 1, 2, none⟩) (by first | omega | (simp; done) | (simp; omega))]; go_simp; done); have hg_w2_0_2 : w2.frozen? ⟨w.heap.size + 1, 2, none⟩ = false := (by rw [hb2.frozen (p := ⟨w.heap.size + 1, 2, none⟩) (by first | omega | (simp; done) | (simp; omega))]; go_simp; done)
  go_wp2_with fail
  refine bodyPost_ret (v := RV bt fl false) (by simp [results, Tryd.results35, go_sem, *]) rfl ⟨rfl, ?_⟩
  repeat' (first | with_reducible exact Below.refl _ _ | with_reducible assumption | with_reducible refine Below.drew ?_ | with_reducible refine bdrewN ?_ _ | with_reducible refine Below.alloc ?_ ?_ _ | with_reducible refine Below.setCell ?_ ?_ _ | with_reducible refine Below.trans ?_ (Below.mono (by assumption) ?_) | omega | (simp; done) | (simp; omega))
set_option maxRecDepth 100000 in
set_option maxHeartbeats 1000000 in
theorem rDo_6 (md a b c bt fl : Nat) (h : ¬ 5 ≤ md) (ua : U64 a) (ub : U64 b) (uc : U64 c) (hR : nanR 6 a b c (nOps 6) = (false, 0, 0)) (D : Hid (∀ W, Calls Tryd.prog 51 #[.int .i64 6, .int .u64 a, .int .i64 md] W (RefOutB bt fl false W))) (w : World) :
    Calls Tryd.prog 35 #[RREC 6 md a b c] w (RefOutB bt fl false w) := by
  have f3 : decide ((4 : Int) < md) = false := decide_eq_false (by omega)
  have C := Lib.hid (fun W => rnans_any 6 md a b c (by decide) ua ub uc W)
  rw [hR] at C
  clear hR h ua ub uc
  go_enter Tryd.func35, Tryd.ntmps35
  go_wp2_with fail
  refine (C.out _).mono ?_
  rintro e w1 ⟨rfl, hb1⟩; have hz_w1 := (hb1).size; (try simp at hz_w1); have hl_w1_0 : w.heap.size < w1.heap.size := (by omega); have hl_w1_1 : w.heap.size + 1 < w1.heap.size := (by omega); have hk_w1_0_0 : w1.cell? ⟨w.heap.size + 1, 0, none⟩ = some (.int .u64 0) := (by rw [hb1.cell (p := ⟨w.heap.size + 1, 0, none⟩) (by first | omega | (simp; done) | (simp; omega))]; go_simp; done); have hg_w1_0_0 : w1.frozen? ⟨w.heap.size + 1, 0, none⟩ = false := (by rw [hb1.frozen (p := ⟨w.heap.size + 1, 0, none⟩) (by first | omega | (simp; done) | (simp; omega))]; go_simp; done); have hk_w1_0_1 : w1.cell? ⟨w.heap.size + 1, 1, none⟩ = some (.int .i64 0) := (by rw [hb1.cell (p := ⟨w.heap.size + 1, 1, none⟩) (by first | omega | (simp; done) | (simp; omega))]; go_simp; done); have hg_w1_0_1 : w1.frozen? ⟨w.heap.size + 1, 1, none⟩ = false := (by rw [hb1.frozen (p := ⟨w.heap.size + 1, 1, none⟩) (by first | omega | (simp; done) | (simp; omega))]; go_simp; done); have hk_w1_0_2 : w1.cell? ⟨w.heap.size + 1, 2, none⟩ = some (.bool false) := (by rw [hb1.cell (p := ⟨w.heap.size + 1, 2, none⟩) (by first | omega | (simp; done) | (simp; omega))]; go_simp; done); have hg_w1_0_2 : w1.frozen? ⟨w.heap.size + 1, 2, none⟩ = false := (by rw [hb1.frozen (p := ⟨w.heap.size + 1, 2, none⟩) (by first | omega | (simp; done) | (simp; omega))]; go_simp; done); have hk_w1_1_0 : w1.cell? ⟨w.heap.size, 0, none⟩ = some (.int .i64 6) := (by rw [hb1.cell (p := ⟨w.heap.size, 0, none⟩) (by first | omega | (simp; done) | (simp; omega))]; go_simp; done); have hk_w1_1_1 : w1.cell? ⟨w.heap.size, 1, none⟩ = some (.int .i64 md) := (by rw [hb1.cell (p := ⟨w.heap.size, 1, none⟩) (by first | omega | (simp; done) | (simp; omega))]; go_simp; done); have hk_w1_1_2 : w1.cell? ⟨w.heap.size, 2, none⟩ = some (.int .u64 a) := (by rw [hb1.cell (p := ⟨w.heap.size, 2, none⟩) (by first | omega | (simp; done) | (simp; omega))]; go_simp; done); have hk_w1_1_3 : w1.cell? ⟨w.heap.size, 3, none⟩ = some (.int .u64 b) := (by rw [hb1.cell (p := ⟨w.heap.size, 3, none⟩) (by first | omega | (simp; done) | (simp; omega))]; go_simp; done); have hk_w1_1_4 : w1.cell? ⟨w.heap.size, 4, none⟩ = some (.int .u64 c) := (by rw [hb1.cell (p := ⟨w.heap.size, 4, none⟩) (by first | omega | (simp; done) | (simp; omega))]; go_simp; done)
  go_wp2_with fail
  refine (D.out _).mono ?_
  rintro e w2 ⟨rfl, hb2⟩; have hz_w2 := (hb2).size; (try simp at hz_w2); have hl_w2_0 : w.heap.size < w2.heap.size := (by omega); have hl_w2_1 : w.heap.size + 1 < w2.heap.size := (by omega); have hk_w2_0_0 : w2.cell? ⟨w.heap.size + 1, 0, none⟩ = some (.int .u64 0) := (by rw [hb2.cell (p := ⟨w.heap.size + 1, 0, none⟩) (by first | omega | (simp; done) | (simp; omega))]; go_simp; done); have hg_w2_0_0 : w2.frozen? ⟨w.heap.size + 1, 0, none⟩ = false := (by rw [hb2.frozen (p := ⟨w.heap.size + 1, 0, none⟩) (by first | omega | (simp; done) | (simp; omega))]; go_simp; done); have hk_w2_0_1 : w2.cell? ⟨w.heap.size + 1, 1, none⟩ = some (.int .i64 0) := (by rw [hb2.cell (p := ⟨w.heap.size + 1, 1, none⟩) (by first | omega | (simp; done) | (simp; omega))]; go_simp; done); have hg_w2_0_1 : w2.frozen? ⟨w.heap.size + 1, 1, none⟩ = false := (by rw [hb2.frozen (p := ⟨w.heap.size + 1, 1, none⟩) (by first | omega | (simp; done) | (simp; omega))]; go_simp; done); have hk_w2_0_2 : w2.cell? ⟨w.heap.size + 1, 2, none⟩ = some (.bool false) := (by rw [hb2.cell (p := ⟨w.heap.size + 1, 2, none⟩) (by first | omega | (simp; done) | (simp; omega))]; go_simp; done); have hg_w2_0_2 : w2.frozen? ⟨w.heap.size + 1, 2, none⟩ = false := (by rw [hb2.frozen (p := ⟨w.heap.size + 1, 2, none⟩) (by first | omega | (simp; done) | (simp; omega))]; go_simp; done)
  go_wp2_with fail
  refine bodyPost_ret (v := RV bt fl false) (by simp [results, Tryd.results35, go_sem, *]) rfl ⟨rfl, ?_⟩
  repeat' (first | with_reducible exact Below.refl _ _ | with_reducible assumption | with_reducible refine Below.drew ?_ | with_reducible refine bdrewN ?_ _ | with_reducible refine Below.alloc ?_ ?_ _ | with_reducible refine Below.setCell ?_ ?_ _ | with_reducible refine Below.trans ?_ (Below.mono (by assumption) ?_) | omega | (simp; done) | (simp; omega))
set_option maxRecDepth 100000 in
set_option maxHeartbeats 1000000 in
theorem rDo_7 (md a b c bt fl : Nat) (h : ¬ 5 ≤ md) (ua : U64 a) (ub : U64 b) (uc : U64 c) (hR : nanR 7 a b c (nOps 7) = (false, 0, 0)) (D : Hid (∀ W, Calls Tryd.prog 51 #[.int .i64 7, .int .u64 a, .int .i64 md] W (RefOutB bt fl false W))) (w : World) :
    Calls Tryd.prog 35 #[RREC 7 md a b c] w (RefOutB bt fl false w) := by
  have f3 : decide ((4 : Int) < md) = false := decide_eq_false (by omega)
  have C := Lib.hid (fun W => rnans_any 7 md a b c (by decide) ua ub uc W)
  rw [hR] at C
  clear hR h ua ub uc
  go_enter Tryd.func35, Tryd.ntmps35
  go_wp2_with fail
  refine (C.out _).mono ?_
  rintro e w1 ⟨rfl, hb1⟩; have hz_w1 := (hb1).size; (try simp at hz_w1); have hl_w1_0 : w.heap.size < w1.heap.size := (by omega); have hl_w1_1 : w.heap.size + 1 < w1.heap.size := (by omega); have hk_w1_0_0 : w1.cell? ⟨w.heap.size + 1, 0, none⟩ = some (.int .u64 0) := (by rw [hb1.cell (p := ⟨w.heap.size + 1, 0, none⟩) (by first | omega | (simp; done) | (simp; omega))]; go_simp; done); have hg_w1_0_0 : w1.frozen? ⟨w.heap.size + 1, 0, none⟩ = false := (by rw [hb1.frozen (p := ⟨w.heap.size + 1, 0, none⟩) (by first | omega | (simp; done) | (simp; omega))]; go_simp; done); have hk_w1_0_1 : w1.cell? ⟨w.heap.size + 1, 1, none⟩ = some (.int .i64 0) := (by rw [hb1.cell (p := ⟨w.heap.size + 1, 1, none⟩) (by first | omega | (simp; done) | (simp; omega))]; go_simp; done); have hg_w1_0_1 : w1.frozen? ⟨w.heap.size + 1, 1, none⟩ = false := (by rw [hb1.frozen (p := ⟨w.heap.size + 1, 1, none⟩) (by first | omega | (simp; done) | (simp; omega))]; go_simp; done); have hk_w1_0_2 : w1.cell? ⟨w.heap.size + 1, 2, none⟩ = some (.bool false) := (by rw [hb1.cell (p := ⟨w.heap.size + 1, 2, none⟩) (by first | omega | (simp; done) | (simp; omega))]; go_simp; done); have hg_w1_0_2 : w1.frozen? ⟨w.heap.size + 1, 2, none⟩ = false := (by rw [hb1.frozen (p := ⟨w.heap.size + 1, 2, none⟩) (by first | omega | (simp; done) | (simp; omega))]; go_simp; done); have hk_w1_1_0 : w1.cell? ⟨w.heap.size, 0, none⟩ = some (.int .i64 7) := (by rw [hb1.cell (p := ⟨w.heap.size, 0, none⟩) (by first | omega | (simp; done) | (simp; omega))]; go_simp; done); have hk_w1_1_1 : w1.cell? ⟨w.heap.size, 1, none⟩ = some (.int .i64 md) := (by rw [hb1.cell (p := ⟨w.heap.size, 1, none⟩) (by first | omega | (simp; done) | (simp; omega))]; go_simp; done); have hk_w1_1_2 : w1.cell? ⟨w.heap.size, 2, none⟩ = some (.int .u64 a) := (by rw [hb1.cell (p := ⟨w.heap.size, 2, none⟩) (by first | omega | (simp; done) | (simp; omega))]; go_simp; done); have hk_w1_1_3 : w1.cell? ⟨w.heap.size, 3, none⟩ = some (.int .u64 b) := (by rw [hb1.cell (p := ⟨w.heap.size, 3, none⟩) (by first | omega | (simp; done) | (simp; omega))]; go_simp; done); have hk_w1_1_4 : w1.cell? ⟨w.heap.size, 4, none⟩ = some (.int .u64 c) := (by rw [hb1.cell (p := ⟨w.heap.size, 4, none⟩) (by first | omega | (simp; done) | (simp; omega))]; go_simp; done)
  go_wp2_with fail
  refine (D.out _).mono ?_
  rintro e w2 ⟨rfl, hb2⟩; have hz_w2 := (hb2).size; (try simp at hz_w2); have hl_w2_0 : w.heap.size < w2.heap.size := (by omega); have hl_w2_1 : w.heap.size + 1 < w2.heap.size := (by omega); have hk_w2_0_0 : w2.cell? ⟨w.heap.size + 1, 0, none⟩ = some (.int .u64 0) := (by rw [hb2.cell (p := ⟨w.heap.size + 1, 0, none⟩) (by first | omega | (simp; done) | (simp; omega))]; go_simp; done); have hg_w2_0_0 : w2.frozen? ⟨w.heap.size + 1, 0, none⟩ = false := (by rw [hb2.frozen (p := ⟨w.heap.size + 1, 0, none⟩) (by first | omega | (simp; done) | (simp; omega))]; go_simp; done); have hk_w2_0_1 : w2.cell? ⟨w.heap.size + 1, 1, none⟩ = some (.int .i64 0) := (by rw [hb2.cell (p := ⟨w.heap.size + 1, 1, none⟩) (by first | omega | (simp; done) | (simp; omega))]; go_simp; done); have hg_w2_0_1 : w2.frozen? ⟨w.heap.size + 1, 1, none⟩ = false := (by rw [hb2.frozen (p := ⟨w.heap.size + 1, 1, none⟩) (by first | omega | (simp; done) | (simp; omega))]; go_simp; done); have hk_w2_0_2 : w2.cell? ⟨w.heap.size + 1, 2, none⟩ = some (.bool false) := (by rw [hb2.cell (p := ⟨w.heap.size + 1, 2, none⟩) (by first | omega | (simp; done) | (simp; omega))]; go_simp; done); have hg_w2_0_2 : w2.frozen? ⟨w.heap.size + 1, 2, none⟩ = false := (by rw [hb2.frozen (p := ⟨w.heap.size + 1, 2, none⟩) (by first | omega | (simp; done) | (simp; omega))]; go_simp; done)
  go_wp2_with fail
  refine bodyPost_ret (v := RV bt fl false) (by simp [results, Tryd.results35, go_sem, *]) rfl ⟨rfl, ?_⟩
  repeat' (first | with_reducible exact Below.refl _ _ | with_reducible assumption | with_reducible refine Below.drew ?_ | with_reducible refine bdrewN ?_ _ | with_reducible refine Below.alloc ?_ ?_ _ | with_reducible refine Below.setCell ?_ ?_ _ | with_reducible refine Below.trans ?_ (Below.mono (by assumption) ?_) | omega | (simp; done) | (simp; omega))
set_option maxRecDepth 100000 in
set_option maxHeartbeats 1000000 in
theorem rDo_8 (md a b c bt fl : Nat) (h : ¬ 5 ≤ md) (ua : U64 a) (ub : U64 b) (uc : U64 c) (hR : nanR 8 a b c (nOps 8) = (false, 0, 0)) (D : Hid (∀ W, Calls Tryd.prog 51 #[.int .i64 8, .int .u64 a, .int .i64 md] W (RefOutB bt fl false W))) (w : World) :
    Calls Tryd.prog 35 #[RREC 8 md a b c] w (RefOutB bt fl false w) := by
  have f3 : decide ((4 : Int) < md) = false := decide_eq_false (by omega)
  have C := Lib.hid (fun W => rnans_any 8 md a b c (by decide) ua ub uc W)
  rw [hR] at C
  clear hR h ua ub uc
  go_enter Tryd.func35, Tryd.ntmps35
  go_wp2_with fail
  refine (C.out _).mono ?_
  rintro e w1 ⟨rfl, hb1⟩; have hz_w1 := (hb1).size; (try simp at hz_w1); have hl_w1_0 : w.heap.size < w1.heap.size := (by omega); have hl_w1_1 : w.heap.size + 1 < w1.heap.size := (by omega); have hk_w1_0_0 : w1.cell? ⟨w.heap.size + 1, 0, none⟩ = some (.int .u64 0) := (by rw [hb1.cell (p := ⟨w.heap.size + 1, 0, none⟩) (by first | omega | (simp; done) | (simp; omega))]; go_simp; done); have hg_w1_0_0 : w1.frozen? ⟨w.heap.size + 1, 0, none⟩ = false := (by rw [hb1.frozen (p := ⟨w.heap.size + 1, 0, none⟩) (by first | omega | (simp; done) | (simp; omega))]; go_simp; done); have hk_w1_0_1 : w1.cell? ⟨w.heap.size + 1, 1, none⟩ = some (.int .i64 0) := (by rw [hb1.cell (p := ⟨w.heap.size + 1, 1, none⟩) (by first | omega | (simp; done) | (simp; omega))]; go_simp; done); have hg_w1_0_1 : w1.frozen? ⟨w.heap.size + 1, 1, none⟩ = false := (by rw [hb1.frozen (p := ⟨w.heap.size + 1, 1, none⟩) (by first | omega | (simp; done) | (simp; omega))]; go_simp; done); have hk_w1_0_2 : w1.cell? ⟨w.heap.size + 1, 2, none⟩ = some (.bool false) := (by rw [hb1.cell (p := ⟨w.heap.size + 1, 2, none⟩) (by first | omega | (simp; done) | (simp; omega))]; go_simp; done); have hg_w1_0_2 : w1.frozen? ⟨w.heap.size + 1, 2, none⟩ = false := (by rw [hb1.frozen (p := ⟨w.heap.size + 1, 2, none⟩) (by first | omega | (simp; done) | (simp; omega))]; go_simp; done); have hk_w1_1_0 : w1.cell? ⟨w.heap.size, 0, none⟩ = some (.int .i64 8) := (by rw [hb1.cell (p := ⟨w.heap.size, 0, none⟩) (by first | omega | (simp; done) | (simp; omega))]; go_simp; done); have hk_w1_1_1 : w1.cell? ⟨w.heap.size, 1, none⟩ = some (.int .i64 md) := (by rw [hb1.cell (p := ⟨w.heap.size, 1, none⟩) (by first | omega | (simp; done) | (simp; omega))]; go_simp; done); have hk_w1_1_2 : w1.cell? ⟨w.heap.size, 2, none⟩ = some (.int .u64 a) := (by rw [hb1.cell (p := ⟨w.heap.size, 2, none⟩) (by first | omega | (simp; done) | (simp; omega))]; go_simp; done); have hk_w1_1_3 : w1.cell? ⟨w.heap.size, 3, none⟩ = some (.int .u64 b) := (by rw [hb1.cell (p := ⟨w.heap.size, 3, none⟩) (by first | omega | (simp; done) | (simp; omega))]; go_simp; done); have hk_w1_1_4 : w1.cell? ⟨w.heap.size, 4, none⟩ = some (.int .u64 c) := (by rw [hb1.cell (p := ⟨w.heap.size, 4, none⟩) (by first | omega | (simp; done) | (simp; omega))]; go_simp; done)
  go_wp2_with fail
  refine (D.out _).mono ?_
  rintro e w2 ⟨rfl, hb2⟩; have hz_w2 := (hb2).size; (try simp at hz_w2); have hl_w2_0 : w.heap.size < w2.heap.size := (by omega); have hl_w2_1 : w.heap.size + 1 < w2.heap.size := (by omega); have hk_w2_0_0 : w2.cell? ⟨w.heap.size + 1, 0, none⟩ = some (.int .u64 0) := (by rw [hb2.cell (p := ⟨w.heap.size + 1, 0, none⟩) (by first | omega | (simp; done) | (simp; omega))]; go_simp; done); have hg_w2_0_0 : w2.frozen? ⟨w.heap.size + 1, 0, none⟩ = false := (by rw [hb2.frozen (p := ⟨w.heap.size + 1, 0, none⟩) (by first | omega | (simp; done) | (simp; omega))]; go_simp; done); have hk_w2_0_1 : w2.cell? ⟨w.heap.size + 1, 1, none⟩ = some (.int .i64 0) := (by rw [hb2.cell (p := ⟨w.heap.size + 1, 1, none⟩) (by first | omega | (simp; done) | (simp; omega))]; go_simp; done); have hg_w2_0_1 : w2.frozen? ⟨w.heap.size + 1, 1, none⟩ = false := (by rw [hb2.frozen (p := ⟨w.heap.size + 1, 1, none⟩) (by first | omega | (simp; done) | (simp; omega))]; go_simp; done); have hk_w2_0_2 : w2.cell? ⟨w.heap.size + 1, 2, none⟩ = some (.bool false) := (by rw [hb2.cell (p := ⟨w.heap.size + 1, 2, none⟩) (by first | omega | (simp; done) | (simp; omega))]; go_simp; done); have hg_w2_0_2 : w2.frozen? ⟨w.heap.size + 1, 2, none⟩ = false := (by rw [hb2.frozen (p := ⟨w.heap.size + 1, 2, none⟩) (by first | omega | (simp; done) | (simp; omega))]; go_simp; done)
  go_wp2_with fail
  refine bodyPost_ret (v := RV bt fl false) (by simp [results, Tryd.results35, go_sem, *]) rfl ⟨rfl, ?_⟩
  repeat' (first | with_reducible exact Below.refl _ _ | with_reducible assumption | with_reducible refine Below.drew ?_ | with_reducible refine bdrewN ?_ _ | with_reducible refine Below.alloc ?_ ?_ _ | with_reducible refine Below.setCell ?_ ?_ _ | with_reducible refine Below.trans ?_ (Below.mono (by assumption) ?_) | omega | (simp; done) | (simp; omega))
set_option maxRecDepth 100000 in
set_option maxHeartbeats 1000000 in
theorem rDo_2 (md a b c bt fl : Nat) (b' : Nat) (hx : bits .xor .u64 (b : Int) 9223372036854775808 = b') (h : ¬ 5 ≤ md) (ua : U64 a) (ub : U64 b) (uc : U64 c) (hR : nanR 2 a b c (nOps 2) = (false, 0, 0)) (D : Hid (∀ W, Calls Tryd.prog 46 #[.int .u64 a, .int .u64 b', .int .i64 md] W (RefOutB bt fl false W))) (w : World) :
    Calls Tryd.prog 35 #[RREC 2 md a b c] w (RefOutB bt fl false w) := by
  have f3 : decide ((4 : Int) < md) = false := decide_eq_false (by omega)
  have C := Lib.hid (fun W => rnans_any 2 md a b c (by decide) ua ub uc W)
  rw [hR] at C
  clear hR h ua ub uc
  go_enter Tryd.func35, Tryd.ntmps35
  go_wp2_with fail
  refine (C.out _).mono ?_
  rintro e w1 ⟨rfl, hb1⟩; have hz_w1 := (hb1).size; (try simp at hz_w1); have hl_w1_0 : w.heap.size < w1.heap.size := (by omega); have hl_w1_1 : w.heap.size + 1 < w1.heap.size := (by omega); have hk_w1_0_0 : w1.cell? ⟨w.heap.size + 1, 0, none⟩ = some (.int .u64 0) := (by rw [hb1.cell (p := ⟨w.heap.size + 1, 0, none⟩) (by first | omega | (simp; done) | (simp; omega))]; go_simp; done); have hg_w1_0_0 : w1.frozen? ⟨w.heap.size + 1, 0, none⟩ = false := (by rw [hb1.frozen (p := ⟨w.heap.size + 1, 0, none⟩) (by first | omega | (simp; done) | (simp; omega))]; go_simp; done); have hk_w1_0_1 : w1.cell? ⟨w.heap.size + 1, 1, none⟩ = some (.int .i64 0) := (by rw [hb1.cell (p := ⟨w.heap.size + 1, 1, none⟩) (by first | omega | (simp; done) | (simp; omega))]; go_simp; done); have hg_w1_0_1 : w1.frozen? ⟨w.heap.size + 1, 1, none⟩ = false := (by rw [hb1.frozen (p := ⟨w.heap.size + 1, 1, none⟩) (by first | omega | (simp; done) | (simp; omega))]; go_simp; done); have hk_w1_0_2 : w1.cell? ⟨w.heap.size + 1, 2, none⟩ = some (.bool false) := (by rw [hb1.cell (p := ⟨w.heap.size + 1, 2, none⟩) (by first | omega | (simp; done) | (simp; omega))]; go_simp; done); have hg_w1_0_2 : w1.frozen? ⟨w.heap.size + 1, 2, none⟩ = false := (by rw [hb1.frozen (p := ⟨w.heap.size + 1, 2, none⟩) (by first | omega | (simp; done) | (simp; omega))]; go_simp; done); have hk_w1_1_0 : w1.cell? ⟨w.heap.size, 0, none⟩ = some (.int .i64 2) := (by rw [hb1.cell (p := ⟨w.heap.size, 0, none⟩) (by first | omega | (simp; done) | (simp; omega))]; go_simp; done); have hk_w1_1_1 : w1.cell? ⟨w.heap.size, 1, none⟩ = some (.int .i64 md) := (by rw [hb1.cell (p := ⟨w.heap.size, 1, none⟩) (by first | omega | (simp; done) | (simp; omega))]; go_simp; done); have hk_w1_1_2 : w1.cell? ⟨w.heap.size, 2, none⟩ = some (.int .u64 a) := (by rw [hb1.cell (p := ⟨w.heap.size, 2, none⟩) (by first | omega | (simp; done) | (simp; omega))]; go_simp; done); have hk_w1_1_3 : w1.cell? ⟨w.heap.size, 3, none⟩ = some (.int .u64 b) := (by rw [hb1.cell (p := ⟨w.heap.size, 3, none⟩) (by first | omega | (simp; done) | (simp; omega))]; go_simp; done); have hk_w1_1_4 : w1.cell? ⟨w.heap.size, 4, none⟩ = some (.int .u64 c) := (by rw [hb1.cell (p := ⟨w.heap.size, 4, none⟩) (by first | omega | (simp; done) | (simp; omega))]; go_simp; done)
  go_wp2_with fail
  refine (D.out _).mono ?_
  rintro e w2 ⟨rfl, hb2⟩; have hz_w2 := (hb2).size; (try simp at hz_w2); have hl_w2_0 : w.heap.size < w2.heap.size := (by omega); have hl_w2_1 : w.heap.size + 1 < w2.heap.size := (by omega); have hk_w2_0_0 : w2.cell? ⟨w.heap.size + 1, 0, none⟩ = some (.int .u64 0) := (by rw [hb2.cell (p := ⟨w.heap.size + 1, 0, none⟩) (by first | omega | (simp; done) | (simp; omega))]; go_simp; done); have hg_w2_0_0 : w2.frozen? ⟨w.heap.size + 1, 0, none⟩ = false := (by rw [hb2.frozen (p := ⟨w.heap.size + 1, 0, none⟩) (by first | omega | (simp; done) | (simp; omega))]; go_simp; done); have hk_w2_0_1 : w2.cell? ⟨w.heap.size + 1, 1, none⟩ = some (.int .i64 0) := (by rw [hb2.cell (p := ⟨w.heap.size + 1, 1, none⟩) (by first | omega | (simp; done) | (simp; omega))]; go_simp; done); have hg_w2_0_1 : w2.frozen? ⟨w.heap.size + 1, 1, none⟩ = false := (by rw [hb2.frozen (p := ⟨w.heap.size + 1, 1, none⟩) (by first | omega | (simp; done) | (simp; omega))]; go_simp; done); have hk_w2_0_2 : w2.cell? ⟨w.heap.size + 1, 2, none⟩ = some (.bool false) := (by rw [hb2.cell (p := ⟨w.heap.size + 1, 2, none⟩) (by first | omega | (simp; done) | (simp; omega))]; go_simp; done); have hg_w2_0_2 : w2.frozen? ⟨w.heap.size + 1, 2, none⟩ = false := (by rw [hb2.frozen (p := ⟨w.heap.size + 1, 2, none⟩) (by first | omega | (simp; done) | (simp; omega))]; go_simp; done)
  go_wp2_with fail
  refine bodyPost_ret (v := RV bt fl false) (by simp [results, Tryd.results35, go_sem, *]) rfl ⟨rfl, ?_⟩
  repeat' (first | with_reducible exact Below.refl _ _ | with_reducible assumption | with_reducible refine Below.drew ?_ | with_reducible refine bdrewN ?_ _ | with_reducible refine Below.alloc ?_ ?_ _ | with_reducible refine Below.setCell ?_ ?_ _ | with_reducible refine Below.trans ?_ (Below.mono (by assumption) ?_) | omega | (simp; done) | (simp; omega))
end Go.Proofs.YtldmbneckcjonaaDoor
namespace Go.Proofs.YtldmbneckcjonaaDoor
open Go.ChangeShapes Go.WideShapes Go.Deep
/-- At p begins a step: what its eight cells hold; what is known of its list, as Q. -/
def StepAt (w : World) (Q : Value → Prop) (p : Addr) : Prop :=
  ∃ (kd av op md : Int) (x y z : Nat) (L : Value), w.cell? p = some (.int .i64 kd) ∧ w.cell? (p.add 1) = some (.int .i64 av) ∧ w.cell? (p.add 2) = some (.int .i64 op) ∧ w.cell? (p.add 3) = some (.int .i64 md) ∧
    w.cell? (p.add 4) = some (.int .u64 x) ∧ w.cell? (p.add 5) = some (.int .u64 y) ∧ w.cell? (p.add 6) = some (.int .u64 z) ∧ w.cell? (p.add 7) = some L ∧
    (Lit.int .i64 kd).wf = true ∧ (Lit.int .i64 av).wf = true ∧ (Lit.int .i64 op).wf = true ∧ (Lit.int .i64 md).wf = true ∧ U64 x ∧ U64 y ∧ U64 z ∧ Q L
theorem nat_of_u64 {n : Int} (h : (Lit.int .u64 n).wf = true) : ∃ x : Nat, n = x ∧ U64 x := by
  simp [Lit.wf, IntKind.min, IntKind.max, IntKind.signed, IntKind.bits] at h
  refine ⟨n.toNat, by omega, ?_⟩
  unfold U64; omega
theorem cellsOp : Tryd.prog.cellsOf 31 = 8 := by kernel_rfl
theorem cellsRec : Tryd.prog.cellsOf 28 = 5 := by kernel_rfl
theorem cellsInt : Tryd.prog.cellsOf 3 = 1 := by kernel_rfl
theorem cellsU64 : Tryd.prog.cellsOf 26 = 1 := by kernel_rfl
theorem cellsLL : Tryd.prog.cellsOf 29 = 1 := by kernel_rfl
section
variable {H : Type} {enc : TypeId × Value → H} {w : World} {base : Nat} {spare : Nat → Bool} {held : Bool}
/-- A list of lists that can be read. -/
def ReadsLL (enc : TypeId × Value → H) (w : World) (base : Nat) (spare : Nat → Bool) (held : Bool) (L : Value) : Prop := ∃ n y, DataW.trod enc Tryd.prog w base spare held n 29 [L] = some y
set_option maxRecDepth 100000 in
theorem open_script {fuel : Nat} {cs : List Value} {x : DataW H × List MemPlace} (h : DataW.trod enc Tryd.prog w base spare held fuel 22 cs = some x) :
    cs = [.slice none 0 0] ∨ ∃ (a : Addr) (len cap : Nat), cs = [.slice (some a) len cap] ∧ len ≤ cap ∧ cap ≤ maxLen ∧ ∀ i, i < len → StepAt w (ReadsLL enc w base spare held) (a.add (i * 8)) := by
  rcases open_slice Tryd.underlying22 h with ⟨h0, _⟩ | ⟨a, len, cap, m, n, D, Pl, hcs, _, hl, hm, hmm, _, hi⟩
  · exact .inl h0
  refine .inr ⟨a, len, cap, hcs, hl, hm, fun i hil => ?_⟩
  have him : i < m := by rw [hmm]; split <;> omega
  obtain ⟨cs', hc, ht⟩ := hi i him
  rw [cellsOp] at hc
  obtain ⟨_, hcl, hat⟩ := World.cells?_some hc
  rw [← cellsOp] at hcl
  obtain ⟨ys, n', _, _, _, hyl, hf⟩ := DataW.trod_struct Tryd.underlying31 ht
  rw [cellsOp] at hcl
  match cs', hcl with
  | [c0, c1, c2, c3, c4, c5, c6, c7], _ =>
    match ys, hyl with
    | [y0, y1, y2, y3], _ =>
      have f0 := hf 0 { name := "Kind", type := 3, offset := 0, embedded := false, tag := "", pkgPath := "", byteOffset := 0 } rfl
      have f1 := hf 1 { name := "A", type := 3, offset := 1, embedded := false, tag := "", pkgPath := "", byteOffset := 8 } rfl
      have f2 := hf 2 { name := "R", type := 28, offset := 2, embedded := false, tag := "", pkgPath := "", byteOffset := 16 } rfl
      have f3 := hf 3 { name := "L", type := 29, offset := 7, embedded := false, tag := "", pkgPath := "", byteOffset := 56 } rfl
      simp only [cellsInt, cellsRec, cellsLL, List.drop_zero, List.drop_succ_cons, List.take_succ_cons, List.take_zero, List.getElem?_cons_zero, List.getElem?_cons_succ] at f0 f1 f2 f3
      obtain ⟨zs, n2, _, _, _, hzl, hg⟩ := DataW.trod_struct Tryd.underlying28 f2
      match zs, hzl with
      | [z0, z1, z2, z3, z4], _ =>
        have g0 := hg 0 { name := "Op", type := 3, offset := 0, embedded := false, tag := "", pkgPath := "", byteOffset := 0 } rfl
        have g1 := hg 1 { name := "Mode", type := 3, offset := 1, embedded := false, tag := "", pkgPath := "", byteOffset := 8 } rfl
        have g2 := hg 2 { name := "A", type := 26, offset := 2, embedded := false, tag := "", pkgPath := "", byteOffset := 16 } rfl
        have g3 := hg 3 { name := "B", type := 26, offset := 3, embedded := false, tag := "", pkgPath := "", byteOffset := 24 } rfl
        have g4 := hg 4 { name := "C", type := 26, offset := 4, embedded := false, tag := "", pkgPath := "", byteOffset := 32 } rfl
        simp only [cellsInt, cellsU64, List.drop_zero, List.drop_succ_cons, List.take_succ_cons, List.take_zero, List.getElem?_cons_zero, List.getElem?_cons_succ] at g0 g1 g2 g3 g4
        obtain ⟨kd, e0, _, w0⟩ := DataW.trod_int Tryd.underlying3 f0
        obtain ⟨av, e1, _, w1⟩ := DataW.trod_int Tryd.underlying3 f1
        obtain ⟨op, e2, _, w2⟩ := DataW.trod_int Tryd.underlying3 g0
        obtain ⟨md, e3, _, w3⟩ := DataW.trod_int Tryd.underlying3 g1
        obtain ⟨x, e4, _, w4⟩ := DataW.trod_int Tryd.underlying26 g2
        obtain ⟨y, e5, _, w5⟩ := DataW.trod_int Tryd.underlying26 g3
        obtain ⟨z, e6, _, w6⟩ := DataW.trod_int Tryd.underlying26 g4
        simp only [List.cons.injEq, and_true] at e0 e1 e2 e3 e4 e5 e6
        subst e0 e1 e2 e3 e4 e5 e6
        obtain ⟨x, rfl, hx⟩ := nat_of_u64 w4
        obtain ⟨y, rfl, hy⟩ := nat_of_u64 w5
        obtain ⟨z, rfl, hz⟩ := nat_of_u64 w6
        refine ⟨kd, av, op, md, x, y, z, c7, ?_, hat 1 (by omega), hat 2 (by omega), hat 3 (by omega), hat 4 (by omega), hat 5 (by omega), hat 6 (by omega), hat 7 (by omega), w0, w1, w2, w3, hx, hy, hz, ⟨_, _, f3⟩⟩
        have := hat 0 (by omega)
        rwa [show (a.add (i * 8)).add 0 = a.add (i * 8) from rfl] at this
end
end Go.Proofs.YtldmbneckcjonaaDoor
namespace Go.Proofs.YtldmbneckcjonaaDoor
open Go.RowKit
abbrev LREC (op md : Int) (a b c : Nat) : Value := .agg #[.int .i64 op, .int .i64 md, .int .u64 a, .int .u64 b, .int .u64 c]
set_option maxRecDepth 100000 in
set_option maxHeartbeats 400000 in
theorem given_any (op md : Int) (o m a b c : Nat) (ho : op % 256 = o) (hm : md % 256 = m) (w : World) : Calls Tryd.prog 30 #[LREC op md a b c] w fun e w' => e = .returned (REC o m a b c) ∧ Below w.heap.size w w' := by
  have ho2 : IntKind.u8.wrap op = o := by rw [IntKind.wrap_u8]; exact ho
  have hm2 : IntKind.u8.wrap md = m := by rw [IntKind.wrap_u8]; exact hm
  clear ho hm
  go_enter Tryd.func30, Tryd.ntmps30
  go_wp2_with fail
  refine bodyPost_ret (v := REC o m a b c) (by simp [results, Tryd.results30, go_sem, *]) rfl ⟨rfl, ?_⟩
  repeat' (first | with_reducible exact Below.refl _ _ | with_reducible assumption | with_reducible refine Below.drew ?_ | with_reducible refine bdrewN ?_ _ | with_reducible refine Below.alloc ?_ ?_ _ | with_reducible refine Below.setCell ?_ ?_ _ | with_reducible refine Below.trans ?_ (Below.mono (by assumption) ?_) | omega | (simp; done) | (simp; omega))
set_option maxRecDepth 100000 in
set_option maxHeartbeats 400000 in
theorem asked_any (op md : Int) (o m a b c : Nat) (ho : op % 256 = o) (hm : md % 256 = m) (w : World) : Calls Tryd.prog 36 #[LREC op md a b c] w fun e w' => e = .returned (RREC o m a b c) ∧ Below w.heap.size w w' := by
  have ho2 : IntKind.u8.wrap op = o := by rw [IntKind.wrap_u8]; exact ho
  have hm2 : IntKind.u8.wrap md = m := by rw [IntKind.wrap_u8]; exact hm
  have ho3 : wrap64 (o : Int) = o := by unfold wrap64; omega
  have hm3 : wrap64 (m : Int) = m := by unfold wrap64; omega
  clear ho hm
  go_enter Tryd.func36, Tryd.ntmps36
  go_wp2_with fail
  refine bodyPost_ret (v := RREC o m a b c) (by simp [results, Tryd.results36, go_sem, *]) rfl ⟨rfl, ?_⟩
  repeat' (first | with_reducible exact Below.refl _ _ | with_reducible assumption | with_reducible refine Below.drew ?_ | with_reducible refine bdrewN ?_ _ | with_reducible refine Below.alloc ?_ ?_ _ | with_reducible refine Below.setCell ?_ ?_ _ | with_reducible refine Below.trans ?_ (Below.mono (by assumption) ?_) | omega | (simp; done) | (simp; omega))
set_option maxRecDepth 100000 in
set_option maxHeartbeats 400000 in
theorem same_any (b f : Nat) (bad : Bool) (hf : f < 256) (w : World) : Calls Tryd.prog 37 #[RES1 b f bad, RV b f bad] w fun e w' => e = .returned (.bool true) ∧ Below w.heap.size w w' := by
  have hf3 : wrap64 (f : Int) = f := by unfold wrap64; omega
  clear hf
  go_enter Tryd.func37, Tryd.ntmps37
  go_wp2_with fail
  go_ret
  refine ⟨rfl, ?_⟩
  repeat' (first | with_reducible exact Below.refl _ _ | with_reducible assumption | with_reducible refine Below.drew ?_ | with_reducible refine bdrewN ?_ _ | with_reducible refine Below.alloc ?_ ?_ _ | with_reducible refine Below.setCell ?_ ?_ _ | with_reducible refine Below.trans ?_ (Below.mono (by assumption) ?_) | omega | (simp; done) | (simp; omega))
/-- The program and the reference answer alike. -/
def Agree (o m a b c : Nat) : Prop := ∃ bt fl bad, (∀ W, TableAt W → Calls Tryd.prog 29 #[REC o m a b c] W (SoftOut bt fl bad W)) ∧ (∀ W, Calls Tryd.prog 35 #[RREC o m a b c] W (RefOutB bt fl bad W)) ∧ fl < 256
set_option maxRecDepth 100000 in
set_option maxHeartbeats 1000000 in
theorem done_any (op md : Int) (o m a b c : Nat) (ho : op % 256 = o) (hm : md % 256 = m) (hA : Agree o m a b c) (w : World) (hT : TableAt w) : Calls Tryd.prog 20 #[LREC op md a b c] w fun e w' => e = .returned (.bool true) ∧ Below w.heap.size w w' := by
  obtain ⟨bt, fl, bad, D, RD, hfl⟩ := hA
  replace D := Lib.hid D
  replace RD := Lib.hid RD
  have G := Lib.hid (fun W => given_any op md o m a b c ho hm W)
  have AK := Lib.hid (fun W => asked_any op md o m a b c ho hm W)
  have S := Lib.hid (fun W => same_any bt fl bad hfl W)
  replace hT := Lib.hid hT
  clear ho hm hfl
  go_enter Tryd.func20, Tryd.ntmps20
  go_wp2_with fail
  refine (G.out _).mono ?_
  rintro e w1 ⟨rfl, hb1⟩; have hz_w1 := (hb1).size; (try simp at hz_w1); have hl_w1_0 : w.heap.size < w1.heap.size := (by omega); have hk_w1_0_0 : w1.cell? ⟨w.heap.size, 0, none⟩ = some (.int .i64 op) := (by rw [hb1.cell (p := ⟨w.heap.size, 0, none⟩) (by first | omega | (simp; done) | (simp; omega))]; go_simp; done); have hk_w1_0_1 : w1.cell? ⟨w.heap.size, 1, none⟩ = some (.int .i64 md) := (by rw [hb1.cell (p := ⟨w.heap.size, 1, none⟩) (by first | omega | (simp; done) | (simp; omega))]; go_simp; done); have hk_w1_0_2 : w1.cell? ⟨w.heap.size, 2, none⟩ = some (.int .u64 a) := (by rw [hb1.cell (p := ⟨w.heap.size, 2, none⟩) (by first | omega | (simp; done) | (simp; omega))]; go_simp; done); have hk_w1_0_3 : w1.cell? ⟨w.heap.size, 3, none⟩ = some (.int .u64 b) := (by rw [hb1.cell (p := ⟨w.heap.size, 3, none⟩) (by first | omega | (simp; done) | (simp; omega))]; go_simp; done); have hk_w1_0_4 : w1.cell? ⟨w.heap.size, 4, none⟩ = some (.int .u64 c) := (by rw [hb1.cell (p := ⟨w.heap.size, 4, none⟩) (by first | omega | (simp; done) | (simp; omega))]; go_simp; done)
  go_wp2_with fail
  refine (D.out _ (hT.out.below (Nat.le_refl _) ?_)).mono ?_
  · repeat' (first | with_reducible exact Below.refl _ _ | with_reducible assumption | with_reducible refine Below.drew ?_ | with_reducible refine bdrewN ?_ _ | with_reducible refine Below.alloc ?_ ?_ _ | with_reducible refine Below.setCell ?_ ?_ _ | with_reducible refine Below.trans ?_ (Below.mono (by assumption) ?_) | omega | (simp; done) | (simp; omega))
  rintro e w2 ⟨rfl, hb2⟩; have hz_w2 := (hb2).size; (try simp at hz_w2); have hl_w2_0 : w.heap.size < w2.heap.size := (by omega); have hk_w2_0_0 : w2.cell? ⟨w.heap.size, 0, none⟩ = some (.int .i64 op) := (by rw [hb2.cell (p := ⟨w.heap.size, 0, none⟩) (by first | omega | (simp; done) | (simp; omega))]; go_simp; done); have hk_w2_0_1 : w2.cell? ⟨w.heap.size, 1, none⟩ = some (.int .i64 md) := (by rw [hb2.cell (p := ⟨w.heap.size, 1, none⟩) (by first | omega | (simp; done) | (simp; omega))]; go_simp; done); have hk_w2_0_2 : w2.cell? ⟨w.heap.size, 2, none⟩ = some (.int .u64 a) := (by rw [hb2.cell (p := ⟨w.heap.size, 2, none⟩) (by first | omega | (simp; done) | (simp; omega))]; go_simp; done); have hk_w2_0_3 : w2.cell? ⟨w.heap.size, 3, none⟩ = some (.int .u64 b) := (by rw [hb2.cell (p := ⟨w.heap.size, 3, none⟩) (by first | omega | (simp; done) | (simp; omega))]; go_simp; done); have hk_w2_0_4 : w2.cell? ⟨w.heap.size, 4, none⟩ = some (.int .u64 c) := (by rw [hb2.cell (p := ⟨w.heap.size, 4, none⟩) (by first | omega | (simp; done) | (simp; omega))]; go_simp; done); have hk_w2_1_0 : w2.cell? ⟨w1.heap.size, 0, none⟩ = some (.int .u8 o) := (by rw [hb2.cell (p := ⟨w1.heap.size, 0, none⟩) (by first | omega | (simp; done) | (simp; omega))]; go_simp; done); have hk_w2_1_1 : w2.cell? ⟨w1.heap.size, 1, none⟩ = some (.int .u8 m) := (by rw [hb2.cell (p := ⟨w1.heap.size, 1, none⟩) (by first | omega | (simp; done) | (simp; omega))]; go_simp; done); have hk_w2_1_2 : w2.cell? ⟨w1.heap.size, 2, none⟩ = some (.int .u64 a) := (by rw [hb2.cell (p := ⟨w1.heap.size, 2, none⟩) (by first | omega | (simp; done) | (simp; omega))]; go_simp; done); have hk_w2_1_3 : w2.cell? ⟨w1.heap.size, 3, none⟩ = some (.int .u64 b) := (by rw [hb2.cell (p := ⟨w1.heap.size, 3, none⟩) (by first | omega | (simp; done) | (simp; omega))]; go_simp; done); have hk_w2_1_4 : w2.cell? ⟨w1.heap.size, 4, none⟩ = some (.int .u64 c) := (by rw [hb2.cell (p := ⟨w1.heap.size, 4, none⟩) (by first | omega | (simp; done) | (simp; omega))]; go_simp; done)
  have hlA_2 : w1.heap.size < w2.heap.size := by omega
  go_wp2_with fail
  refine (D.out _ (hT.out.below (Nat.le_refl _) ?_)).mono ?_
  · repeat' (first | with_reducible exact Below.refl _ _ | with_reducible assumption | with_reducible refine Below.drew ?_ | with_reducible refine bdrewN ?_ _ | with_reducible refine Below.alloc ?_ ?_ _ | with_reducible refine Below.setCell ?_ ?_ _ | with_reducible refine Below.trans ?_ (Below.mono (by assumption) ?_) | omega | (simp; done) | (simp; omega))
  rintro e w3 ⟨rfl, hb3⟩; have hz_w3 := (hb3).size; (try simp at hz_w3); have hl_w3_0 : w.heap.size < w3.heap.size := (by omega); have hk_w3_0_0 : w3.cell? ⟨w.heap.size, 0, none⟩ = some (.int .i64 op) := (by rw [hb3.cell (p := ⟨w.heap.size, 0, none⟩) (by first | omega | (simp; done) | (simp; omega))]; go_simp; done); have hk_w3_0_1 : w3.cell? ⟨w.heap.size, 1, none⟩ = some (.int .i64 md) := (by rw [hb3.cell (p := ⟨w.heap.size, 1, none⟩) (by first | omega | (simp; done) | (simp; omega))]; go_simp; done); have hk_w3_0_2 : w3.cell? ⟨w.heap.size, 2, none⟩ = some (.int .u64 a) := (by rw [hb3.cell (p := ⟨w.heap.size, 2, none⟩) (by first | omega | (simp; done) | (simp; omega))]; go_simp; done); have hk_w3_0_3 : w3.cell? ⟨w.heap.size, 3, none⟩ = some (.int .u64 b) := (by rw [hb3.cell (p := ⟨w.heap.size, 3, none⟩) (by first | omega | (simp; done) | (simp; omega))]; go_simp; done); have hk_w3_0_4 : w3.cell? ⟨w.heap.size, 4, none⟩ = some (.int .u64 c) := (by rw [hb3.cell (p := ⟨w.heap.size, 4, none⟩) (by first | omega | (simp; done) | (simp; omega))]; go_simp; done); have hk_w3_1_0 : w3.cell? ⟨w2.heap.size, 0, none⟩ = some (.int .u64 bt) := (by rw [hb3.cell (p := ⟨w2.heap.size, 0, none⟩) (by first | omega | (simp; done) | (simp; omega))]; go_simp; done); have hk_w3_1_1 : w3.cell? ⟨w2.heap.size, 1, none⟩ = some (.int .u8 fl) := (by rw [hb3.cell (p := ⟨w2.heap.size, 1, none⟩) (by first | omega | (simp; done) | (simp; omega))]; go_simp; done); have hk_w3_1_2 : w3.cell? ⟨w2.heap.size, 2, none⟩ = some (.bool bad) := (by rw [hb3.cell (p := ⟨w2.heap.size, 2, none⟩) (by first | omega | (simp; done) | (simp; omega))]; go_simp; done)
  have hlA_3 : w2.heap.size < w3.heap.size := by omega
  have hlA_3_1 : w1.heap.size < w3.heap.size := by omega
  go_wp2_with fail
  refine (AK.out _).mono ?_
  rintro e w4 ⟨rfl, hb4⟩; have hz_w4 := (hb4).size; (try simp at hz_w4); have hl_w4_0 : w.heap.size < w4.heap.size := (by omega); have hk_w4_0_0 : w4.cell? ⟨w2.heap.size, 0, none⟩ = some (.int .u64 bt) := (by rw [hb4.cell (p := ⟨w2.heap.size, 0, none⟩) (by first | omega | (simp; done) | (simp; omega))]; go_simp; done); have hk_w4_0_1 : w4.cell? ⟨w2.heap.size, 1, none⟩ = some (.int .u8 fl) := (by rw [hb4.cell (p := ⟨w2.heap.size, 1, none⟩) (by first | omega | (simp; done) | (simp; omega))]; go_simp; done); have hk_w4_0_2 : w4.cell? ⟨w2.heap.size, 2, none⟩ = some (.bool bad) := (by rw [hb4.cell (p := ⟨w2.heap.size, 2, none⟩) (by first | omega | (simp; done) | (simp; omega))]; go_simp; done); have hk_w4_1_0 : w4.cell? ⟨w3.heap.size, 0, none⟩ = some (.int .u64 bt) := (by rw [hb4.cell (p := ⟨w3.heap.size, 0, none⟩) (by first | omega | (simp; done) | (simp; omega))]; go_simp; done); have hk_w4_1_1 : w4.cell? ⟨w3.heap.size, 1, none⟩ = some (.int .u8 fl) := (by rw [hb4.cell (p := ⟨w3.heap.size, 1, none⟩) (by first | omega | (simp; done) | (simp; omega))]; go_simp; done); have hk_w4_1_2 : w4.cell? ⟨w3.heap.size, 2, none⟩ = some (.bool bad) := (by rw [hb4.cell (p := ⟨w3.heap.size, 2, none⟩) (by first | omega | (simp; done) | (simp; omega))]; go_simp; done)
  have hlA_4 : w3.heap.size < w4.heap.size := by omega
  have hlA_4_1 : w1.heap.size < w4.heap.size := by omega
  have hlA_4_2 : w2.heap.size < w4.heap.size := by omega
  go_wp2_with fail
  refine (RD.out _).mono ?_
  rintro e w5 ⟨rfl, hb5⟩; have hz_w5 := (hb5).size; (try simp at hz_w5); have hl_w5_0 : w.heap.size < w5.heap.size := (by omega); have hk_w5_0_0 : w5.cell? ⟨w2.heap.size, 0, none⟩ = some (.int .u64 bt) := (by rw [hb5.cell (p := ⟨w2.heap.size, 0, none⟩) (by first | omega | (simp; done) | (simp; omega))]; go_simp; done); have hk_w5_0_1 : w5.cell? ⟨w2.heap.size, 1, none⟩ = some (.int .u8 fl) := (by rw [hb5.cell (p := ⟨w2.heap.size, 1, none⟩) (by first | omega | (simp; done) | (simp; omega))]; go_simp; done); have hk_w5_0_2 : w5.cell? ⟨w2.heap.size, 2, none⟩ = some (.bool bad) := (by rw [hb5.cell (p := ⟨w2.heap.size, 2, none⟩) (by first | omega | (simp; done) | (simp; omega))]; go_simp; done); have hk_w5_1_0 : w5.cell? ⟨w3.heap.size, 0, none⟩ = some (.int .u64 bt) := (by rw [hb5.cell (p := ⟨w3.heap.size, 0, none⟩) (by first | omega | (simp; done) | (simp; omega))]; go_simp; done); have hk_w5_1_1 : w5.cell? ⟨w3.heap.size, 1, none⟩ = some (.int .u8 fl) := (by rw [hb5.cell (p := ⟨w3.heap.size, 1, none⟩) (by first | omega | (simp; done) | (simp; omega))]; go_simp; done); have hk_w5_1_2 : w5.cell? ⟨w3.heap.size, 2, none⟩ = some (.bool bad) := (by rw [hb5.cell (p := ⟨w3.heap.size, 2, none⟩) (by first | omega | (simp; done) | (simp; omega))]; go_simp; done)
  have hlA_5_1 : w1.heap.size < w5.heap.size := by omega
  have hlA_5_2 : w2.heap.size < w5.heap.size := by omega
  have hlA_5_3 : w3.heap.size < w5.heap.size := by omega
  go_wp2_with fail
  refine (S.out _).mono ?_
  rintro e w6 ⟨rfl, hb6⟩; have hz_w6 := (hb6).size; (try simp at hz_w6); have hl_w6_0 : w.heap.size < w6.heap.size := (by omega); have hk_w6_0_0 : w6.cell? ⟨w3.heap.size, 0, none⟩ = some (.int .u64 bt) := (by rw [hb6.cell (p := ⟨w3.heap.size, 0, none⟩) (by first | omega | (simp; done) | (simp; omega))]; go_simp; done); have hk_w6_0_1 : w6.cell? ⟨w3.heap.size, 1, none⟩ = some (.int .u8 fl) := (by rw [hb6.cell (p := ⟨w3.heap.size, 1, none⟩) (by first | omega | (simp; done) | (simp; omega))]; go_simp; done); have hk_w6_0_2 : w6.cell? ⟨w3.heap.size, 2, none⟩ = some (.bool bad) := (by rw [hb6.cell (p := ⟨w3.heap.size, 2, none⟩) (by first | omega | (simp; done) | (simp; omega))]; go_simp; done); have hk_w6_1_0 : w6.cell? ⟨w5.heap.size, 0, none⟩ = some (.int .u64 bt) := (by rw [hb6.cell (p := ⟨w5.heap.size, 0, none⟩) (by first | omega | (simp; done) | (simp; omega))]; go_simp; done); have hk_w6_1_1 : w6.cell? ⟨w5.heap.size, 1, none⟩ = some (.int .i64 fl) := (by rw [hb6.cell (p := ⟨w5.heap.size, 1, none⟩) (by first | omega | (simp; done) | (simp; omega))]; go_simp; done); have hk_w6_1_2 : w6.cell? ⟨w5.heap.size, 2, none⟩ = some (.bool bad) := (by rw [hb6.cell (p := ⟨w5.heap.size, 2, none⟩) (by first | omega | (simp; done) | (simp; omega))]; go_simp; done)
  have hlA_6 : w5.heap.size < w6.heap.size := by omega
  have hlA_6_1 : w1.heap.size < w6.heap.size := by omega
  have hlA_6_2 : w2.heap.size < w6.heap.size := by omega
  have hlA_6_3 : w3.heap.size < w6.heap.size := by omega
  have hlA_6_4 : w4.heap.size < w6.heap.size := by omega
  go_wp2_with fail
  refine (S.out _).mono ?_
  rintro e w7 ⟨rfl, hb7⟩
  go_wp2_with fail
  go_ret
  refine ⟨rfl, ?_⟩
  repeat' (first | with_reducible exact Below.refl _ _ | with_reducible assumption | with_reducible refine Below.drew ?_ | with_reducible refine bdrewN ?_ _ | with_reducible refine Below.alloc ?_ ?_ _ | with_reducible refine Below.setCell ?_ ?_ _ | with_reducible refine Below.trans ?_ (Below.mono (by assumption) ?_) | omega | (simp; done) | (simp; omega))
end Go.Proofs.YtldmbneckcjonaaDoor
namespace Go.Proofs.YtldmbneckcjonaaDoor
open Go.RowKit
/-- The i-th step's cells. -/
def IsSl (L : Value) : Prop := ∃ A n c, L = .slice A n c
def StepsIn (w : World) (A : Option Addr) (len : Nat) : Prop := ∀ i, i < len → ∃ a, A = some a ∧ a.block < w.heap.size ∧ ∃ Q : Value → Prop, (∀ L, Q L → IsSl L) ∧ StepAt w Q (a.add (i * 8))
theorem block_add' (a : Addr) (n : Nat) : (a.add n).block = a.block := by unfold Addr.add; split <;> rfl
theorem StepAt.below {w w' : World} {Q : Value → Prop} {p : Addr} {B : Nat} (h : StepAt w Q p) (hB : w.heap.size ≤ B) (hb : Below B w w') (hp : p.block < w.heap.size) : StepAt w' Q p := by
  obtain ⟨kd, av, op, md, x, y, z, L, h0, h1, h2, h3, h4, h5, h6, h7, r⟩ := h
  have k : ∀ (n : Nat) (v : Value), w.cell? (p.add n) = some v → w'.cell? (p.add n) = some v := fun n v hc => by rw [hb.cell (by rw [block_add']; omega)]; exact hc
  exact ⟨kd, av, op, md, x, y, z, L, by rw [hb.cell (by omega)]; exact h0, k 1 _ h1, k 2 _ h2, k 3 _ h3, k 4 _ h4, k 5 _ h5, k 6 _ h6, k 7 _ h7, r⟩
theorem add_at (p : Addr) {n : Nat} (hn : n ≠ 0) : p.add n = ⟨p.block, p.off + n, none⟩ := by unfold Addr.add; rw [if_neg hn]
theorem mod256 (x : Int) : ∃ o : Nat, x % 256 = o ∧ o < 256 := ⟨(x % 256).toNat, by omega, by omega⟩
theorem wrapSm {o : Nat} (h : o < 256) : wrap64 (o : Int) = o := by unfold wrap64; omega
theorem stepsIn_below {w w' : World} {A : Option Addr} {len : Nat} (h : StepsIn w A len) (hb : Below w.heap.size w w') : StepsIn w' A len := fun i hi => by
  obtain ⟨a, e, hblk, Q, hQ, hS⟩ := h i hi
  exact ⟨a, e, Nat.lt_of_lt_of_le hblk hb.size, Q, hQ, hS.below (Nat.le_refl _) hb (by rw [block_add']; exact hblk)⟩
attribute [local go_sem] few_yes few_no
set_option maxRecDepth 100000 in
set_option maxHeartbeats 2000000 in
theorem of_any (A : Option Addr) (len cap lo hi : Nat) (hl : len ≤ maxLen) (w : World) (hT : TableAt w) (hst : StepsIn w A len)
    (hG : ∀ o m a b c : Nat, o < 256 → m < 256 → lo ≤ o → o ≤ hi → U64 a → U64 b → U64 c → Agree o m a b c) :
    Calls Tryd.prog 14 #[.slice A len cap, .int .i64 lo, .int .i64 hi] w fun e w' => e = .returned (.bool true) ∧ Below w.heap.size w w' := by
  unfold maxLen at hl
  replace hT := Lib.hid hT
  replace hst := Lib.hid hst
  replace hG := Lib.hid hG
  go_enter Tryd.func14, Tryd.ntmps14
  go_wp2
  go_loopw [6, 7, 8, 9, 10] (fun _ i _ _ _ wr => ∃ k : Nat, k ≤ len ∧ i = .int .i64 k ∧ Below w.heap.size w wr) (fun _ i _ _ _ _ => len - (intOf i).toNat)
  case atStart => exact ⟨0, Nat.zero_le _, rfl, Below.refl _ _⟩
  case round =>
    obtain ⟨k, hk, rfl, hB⟩ := hrel
    by_cases hlt : k < len
    · rcases few_or k with h60 | h60
      · obtain ⟨a, rfl, hblk, Q, hQ, hS⟩ := hst.out k hlt
        obtain ⟨kd, av, op, md, x, y, z, L, h0, h1, h2, h3, h4, h5, h6, h7, w0, w1, w2, w3, ux, uy, uz, hL⟩ := hS.below (Nat.le_refl _) hB (by rw [block_add']; exact hblk)
        have hT' := Lib.hid (hT.out.below (Nat.le_refl _) hB)
        obtain ⟨o, ho, ho2⟩ := mod256 op
        obtain ⟨m, hm, hm2⟩ := mod256 md
        have ho8 : IntKind.u8.wrap op = o := by rw [IntKind.wrap_u8]; exact ho
        have rel : ∀ wr', Below w.heap.size w wr' → ∃ k' : Nat, k' ≤ len ∧ Value.int .i64 ((k : Int) + 1) = .int .i64 k' ∧ Below w.heap.size w wr' := fun wr' h => ⟨k + 1, hlt, rfl, h⟩
        replace rel := Lib.hid rel
        have D := fun hAg => Lib.hid (fun W hT => done_any op md o m x y z ho hm hAg W hT)
        have hAg := fun h1 h2 => hG.out o m x y z ho2 hm2 h1 h2 ux uy uz
        replace D := Lib.hid D
        replace hAg := Lib.hid hAg
        have hBs := hB.size
        have hkp : (k : Int) < len := by omega
        obtain ⟨LA, Ln, Lc, rfl⟩ := hQ _ hL
        rw [add_at _ (by decide)] at h1 h2 h3 h4 h5 h6 h7
        clear hL hQ hS w0 w1 w2 w3 ux uy uz ho hm hG hst hm2
        by_cases hkd : kd = 2
        · subst hkd
          by_cases hlo : lo ≤ o
          · by_cases hhi : o ≤ hi
            · have D1 := D.out (hAg.out hlo hhi)
              clear hAg D
              go_wp2_with fail
              refine (D1.out _ (hT'.out.below (Nat.le_refl _) ?_)).mono ?_
              · repeat' (first | with_reducible exact Below.refl _ _ | with_reducible assumption | with_reducible refine Below.drew ?_ | with_reducible refine bdrewN ?_ _ | with_reducible refine Below.alloc ?_ ?_ _ | with_reducible refine Below.setCell ?_ ?_ _ | with_reducible refine Below.trans ?_ (Below.mono (by assumption) ?_) | omega | (simp; done) | (simp; omega))
              rintro e w1 ⟨rfl, hb1⟩
              go_wp2_with fail
              go_roundw
              case rel => exact rel.out _ (by repeat' (first | with_reducible exact Below.refl _ _ | with_reducible assumption | with_reducible refine Below.drew ?_ | with_reducible refine bdrewN ?_ _ | with_reducible refine Below.alloc ?_ ?_ _ | with_reducible refine Below.setCell ?_ ?_ _ | with_reducible refine Below.trans ?_ (Below.mono (by assumption) ?_) | omega | (simp; done) | (simp; omega)))
              case measure => simp [intOf]; omega
            · clear hAg D hT'
              go_wp2_with fail
              go_roundw
              case rel => exact rel.out _ (by repeat' (first | with_reducible exact Below.refl _ _ | with_reducible assumption | with_reducible refine Below.drew ?_ | with_reducible refine bdrewN ?_ _ | with_reducible refine Below.alloc ?_ ?_ _ | with_reducible refine Below.setCell ?_ ?_ _ | with_reducible refine Below.trans ?_ (Below.mono (by assumption) ?_) | omega | (simp; done) | (simp; omega)))
              case measure => simp [intOf]; omega
          · clear hAg D hT'
            go_wp2_with fail
            go_roundw
            case rel => exact rel.out _ (by repeat' (first | with_reducible exact Below.refl _ _ | with_reducible assumption | with_reducible refine Below.drew ?_ | with_reducible refine bdrewN ?_ _ | with_reducible refine Below.alloc ?_ ?_ _ | with_reducible refine Below.setCell ?_ ?_ _ | with_reducible refine Below.trans ?_ (Below.mono (by assumption) ?_) | omega | (simp; done) | (simp; omega)))
            case measure => simp [intOf]; omega
        · have c0 : (kd == 2) = false := by rw [beq_eq_false_iff_ne]; exact hkd
          clear hAg D hT'
          go_wp2_with fail
          go_roundw
          case rel => exact rel.out _ (by repeat' (first | with_reducible exact Below.refl _ _ | with_reducible assumption | with_reducible refine Below.drew ?_ | with_reducible refine bdrewN ?_ _ | with_reducible refine Below.alloc ?_ ?_ _ | with_reducible refine Below.setCell ?_ ?_ _ | with_reducible refine Below.trans ?_ (Below.mono (by assumption) ?_) | omega | (simp; done) | (simp; omega)))
          case measure => simp [intOf]; omega
      · go_wp2
        go_ret
        exact ⟨rfl, hB⟩
    · go_wp2
      go_ret
      exact ⟨rfl, hB⟩
theorem readsLL_slice {H : Type} {enc : TypeId × Value → H} {w : World} {base : Nat} {sp : Nat → Bool} {hd : Bool} {L : Value} (h : ReadsLL enc w base sp hd L) : IsSl L := by
  obtain ⟨n, y, h⟩ := h
  rcases Go.Deep.open_slice Tryd.underlying29 h with ⟨h0, _⟩ | ⟨a, len, cap, m, n, D, Pl, hcs, _⟩
  · exact ⟨none, 0, 0, by simpa using h0⟩
  · exact ⟨some a, len, cap, by simpa using hcs⟩
theorem stepsIn_of {H : Type} {enc : TypeId × Value → H} {W : World} {base : Nat} {sp : Nat → Bool} {hd : Bool} {A : Option Addr} {len : Nat} (h : ∀ i, i < len → ∃ a, A = some a ∧ a.block < W.heap.size ∧ StepAt W (ReadsLL enc W base sp hd) (a.add (i * 8))) : StepsIn W A len := fun i hi => by
  obtain ⟨a, e, hb, hS⟩ := h i hi
  exact ⟨a, e, hb, _, fun _ h => readsLL_slice h, hS⟩
end Go.Proofs.YtldmbneckcjonaaDoor
namespace Go.Proofs.YtldmbneckcjonaaDoor
open Go.RowKit
theorem agree_bad {o m a b c : Nat} (ho : o < 256) (h : o = 0 ∨ 11 ≤ o ∨ 5 ≤ m) : Agree o m a b c := by
  refine ⟨0, 0, true, fun W _ => ?_, fun W => ?_, by decide⟩
  · by_cases h0 : o = 0
    · exact Do_zero o m a b c (by rw [h0]; rfl) W
    · by_cases h11 : 11 ≤ o
      · exact Do_many o m a b c h11 ho W
      · exact Do_mode o m a b c h0 (by omega) (by omega) W
  · by_cases h0 : o = 0
    · exact rDo_zero o m a b c (by rw [h0]; rfl) W
    · by_cases h11 : 11 ≤ o
      · exact rDo_many o m a b c h11 W
      · exact rDo_mode o m a b c h0 (by omega) (by omega) W
theorem agree_clear {m a b c : Nat} (h : ¬ 5 ≤ m) (ua : U64 a) (ub : U64 b) (uc : U64 c) : Agree 10 m a b c :=
  ⟨0, 0, false, fun W hT => Do_clear m a b c h ua ub uc W hT, fun W => rDo_clear m a b c h W, by decide⟩
theorem agree_others {o m a b c : Nat} (ho : o < 256) (h : o = 0 ∨ 10 ≤ o) (ua : U64 a) (ub : U64 b) (uc : U64 c) : Agree o m a b c := by
  by_cases hb : o = 0 ∨ 11 ≤ o ∨ 5 ≤ m
  · exact agree_bad ho hb
  · obtain rfl : o = 10 := by omega
    exact agree_clear (by omega) ua ub uc
set_option maxRecDepth 100000 in
set_option maxHeartbeats 400000 in
theorem Others_any (A : Option Addr) (len cap : Nat) (hl : len ≤ maxLen) (w : World) (hT : TableAt w) (hst : StepsIn w A len) :
    Calls Tryd.prog 13 #[.slice A len cap] w fun e w' => e = .returned (.bool true) ∧ Below w.heap.size w w' := by
  have C1 := Lib.hid (fun W hT hst => of_any A len cap 0 0 hl W hT hst fun o m a b c ho _ h1 h2 ua ub uc => agree_others ho (by omega) ua ub uc)
  have C2 := Lib.hid (fun W hT hst => of_any A len cap 10 255 hl W hT hst fun o m a b c ho _ h1 h2 ua ub uc => agree_others ho (by omega) ua ub uc)
  have hst2 := Lib.hid (fun (W : World) (hb : Below w.heap.size w W) => stepsIn_below hst hb)
  replace hst := Lib.hid hst
  replace hT := Lib.hid hT
  clear hl
  go_enter Tryd.func13, Tryd.ntmps13
  go_wp2_with fail
  refine (C1.out _ hT.out hst.out).mono ?_
  rintro e w1 ⟨rfl, hb1⟩
  go_wp2_with fail
  refine (C2.out _ (hT.out.below (Nat.le_refl _) hb1) (hst2.out _ hb1)).mono ?_
  rintro e w2 ⟨rfl, hb2⟩
  go_wp2_with fail
  go_ret
  exact ⟨rfl, hb1.trans (hb2.mono hb1.size)⟩
end Go.Proofs.YtldmbneckcjonaaDoor
