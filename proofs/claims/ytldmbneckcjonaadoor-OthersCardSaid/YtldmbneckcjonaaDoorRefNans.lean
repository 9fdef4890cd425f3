/- softfloatref.operands, nans. -/
import Derived.Test.YtldmbneckcjonaaDoorNanM
import Derived.Test.YtldmbneckcjonaaDoorSmall
import Derived.Lib.Hide
import Derived.WalkKit
import Derived.Deep.RegionWith
namespace Go.Proofs.YtldmbneckcjonaaDoor
open Go.RowKit
/-- A record of the reference, as a value. -/
abbrev RREC (op md a b c : Nat) : Value := .agg #[.int .i64 op, .int .i64 md, .int .u64 a, .int .u64 b, .int .u64 c]
def OpsOut (n a b c : Nat) (w : World) (e : Ending) (w' : World) : Prop := ∃ g, e = .returned (.slice (some ⟨g, 0, none⟩) n n) ∧ (∀ i, i < n → w'.cell? ⟨g, i, none⟩ = some (.int .u64 (opnd a b c i))) ∧ Below w.heap.size w w'
set_option maxRecDepth 100000 in
set_option maxHeartbeats 400000 in
theorem operands_5 (md a b c : Nat) (w : World) : Calls Tryd.prog 62 #[RREC 5 md a b c] w (OpsOut 3 a b c w) := by
  go_enter Tryd.func62, Tryd.ntmps62
  go_wp2
  go_ret
  refine ⟨_, rfl, fun i hi => ?_, ?_⟩
  · have h3 : i = 0 ∨ i = 1 ∨ i = 2 := by omega
    rcases h3 with rfl | rfl | rfl <;> (unfold opnd; go_simp; done)
  repeat' (first | with_reducible exact Below.refl _ _ | with_reducible assumption | with_reducible refine Below.drew ?_ | with_reducible refine bdrewN ?_ _ | with_reducible refine Below.alloc ?_ ?_ _ | with_reducible refine Below.setCell ?_ ?_ _ | with_reducible refine Below.trans ?_ (Below.mono (by assumption) ?_) | omega | (simp; done) | (simp; omega))
set_option maxRecDepth 100000 in
set_option maxHeartbeats 400000 in
theorem operands_1 (op md a b c : Nat) (h : op = 6 ∨ op = 7 ∨ op = 8) (w : World) : Calls Tryd.prog 62 #[RREC op md a b c] w (OpsOut 1 a b c w) := by
  rcases h with rfl | rfl | rfl
  all_goals
    go_enter Tryd.func62, Tryd.ntmps62
    go_wp2
    go_ret
    refine ⟨_, rfl, fun i hi => ?_, ?_⟩
    · have h3 : i = 0 := by omega
      subst h3; (unfold opnd; go_simp; done)
    repeat' (first | with_reducible exact Below.refl _ _ | with_reducible assumption | with_reducible refine Below.drew ?_ | with_reducible refine bdrewN ?_ _ | with_reducible refine Below.alloc ?_ ?_ _ | with_reducible refine Below.setCell ?_ ?_ _ | with_reducible refine Below.trans ?_ (Below.mono (by assumption) ?_) | omega | (simp; done) | (simp; omega))
set_option maxRecDepth 100000 in
set_option maxHeartbeats 400000 in
theorem operands_2 (op md a b c : Nat) (h5 : ((op : Int) == 5) = false) (h6 : ((op : Int) == 6) = false) (h7 : ((op : Int) == 7) = false) (h8 : ((op : Int) == 8) = false) (w : World) : Calls Tryd.prog 62 #[RREC op md a b c] w (OpsOut 2 a b c w) := by
  go_enter Tryd.func62, Tryd.ntmps62
  go_wp2
  go_ret
  refine ⟨_, rfl, fun i hi => ?_, ?_⟩
  · have h3 : i = 0 ∨ i = 1 := by omega
    rcases h3 with rfl | rfl <;> (unfold opnd; go_simp; done)
  repeat' (first | with_reducible exact Below.refl _ _ | with_reducible assumption | with_reducible refine Below.drew ?_ | with_reducible refine bdrewN ?_ _ | with_reducible refine Below.alloc ?_ ?_ _ | with_reducible refine Below.setCell ?_ ?_ _ | with_reducible refine Below.trans ?_ (Below.mono (by assumption) ?_) | omega | (simp; done) | (simp; omega))
theorem operands_any (op md a b c : Nat) (h10 : op ≠ 10) (w : World) : Calls Tryd.prog 62 #[RREC op md a b c] w (OpsOut (nOps op) a b c w) := by
  unfold nOps
  by_cases h5 : op = 5
  · subst h5; rw [if_pos rfl]; exact operands_5 md a b c w
  · rw [if_neg h5]
    by_cases h6 : op = 6 ∨ op = 7 ∨ op = 8
    · rw [if_pos h6]; exact operands_1 op md a b c h6 w
    · rw [if_neg h6, if_neg h10]
      exact operands_2 op md a b c (by rw [beq_eq_false_iff_ne]; omega) (by rw [beq_eq_false_iff_ne]; omega) (by rw [beq_eq_false_iff_ne]; omega) (by rw [beq_eq_false_iff_ne]; omega) w
/-- The first NaN's index. -/
def FirstAt (a b c k : Nat) (F : Int) : Prop := (F = -1 ∧ nanS a b c k = false) ∨ ∃ j : Nat, F = j ∧ j < k ∧ nanS a b c k = true ∧ nanB a b c k = quietN (opnd a b c j)
theorem first_step {a b c k : Nat} {F : Int} (h : FirstAt a b c k F) : (kindN (opnd a b c k) < 4 → FirstAt a b c (k + 1) F) ∧ (4 ≤ kindN (opnd a b c k) → F < 0 → FirstAt a b c (k + 1) k) ∧ (4 ≤ kindN (opnd a b c k) → 0 ≤ F → FirstAt a b c (k + 1) F) := by
  have sS : nanS a b c (k + 1) = (nanS a b c k || decide (4 ≤ kindN (opnd a b c k))) := rfl
  have sB : nanB a b c (k + 1) = if nanS a b c k = false ∧ 4 ≤ kindN (opnd a b c k) then quietN (opnd a b c k) else nanB a b c k := rfl
  unfold FirstAt
  rw [sS, sB]
  rcases h with ⟨rfl, h⟩ | ⟨j, rfl, hj, h1, h2⟩
  · rw [h]
    refine ⟨fun h4 => .inl ⟨rfl, ?_⟩, fun h4 _ => .inr ⟨k, rfl, by omega, ?_, ?_⟩, fun _ h0 => absurd h0 (by decide)⟩
    · rw [decide_eq_false (by omega)]; rfl
    · rw [decide_eq_true h4]; rfl
    · rw [if_pos ⟨rfl, h4⟩]
  · rw [h1]
    refine ⟨fun h4 => .inr ⟨j, rfl, by omega, rfl, ?_⟩, fun _ h0 => absurd h0 (by omega), fun h4 _ => .inr ⟨j, rfl, by omega, rfl, ?_⟩⟩
    · rw [if_neg (by simp)]; exact h2
    · rw [if_neg (by simp)]; exact h2
set_option maxRecDepth 100000 in
set_option maxHeartbeats 6000000 in
theorem rnans_any (op md a b c : Nat) (h10 : op ≠ 10) (ua : U64 a) (ub : U64 b) (uc : U64 c) (w : World) :
    Calls Tryd.prog 45 #[RREC op md a b c] w fun e w' => e = .returned (.tuple #[RV (nanR op a b c (nOps op)).2.1 (nanR op a b c (nOps op)).2.2 false, .bool (nanR op a b c (nOps op)).1]) ∧ Below w.heap.size w w' := by
  have C := Lib.hid (fun W => operands_any op md a b c h10 W)
  obtain ⟨R, hR0⟩ : ∃ R, nanR op a b c (nOps op) = R := ⟨_, rfl⟩
  rw [hR0]
  replace hR0 := Lib.hid hR0
  have hn := nOps_le op
  generalize nOps op = n at *
  go_enter Tryd.func45, Tryd.ntmps45
  go_wp2_with fail
  refine (C.out _).mono ?_
  rintro e w0 ⟨g, rfl, hx, hb0⟩
  have hz0 := hb0.size
  have hk : (w0.cell? ⟨w.heap.size, 0, none⟩ = some (.int .i64 op) ∧ w0.cell? ⟨w.heap.size, 1, none⟩ = some (.int .i64 md) ∧ w0.cell? ⟨w.heap.size, 2, none⟩ = some (.int .u64 a) ∧ w0.cell? ⟨w.heap.size, 3, none⟩ = some (.int .u64 b) ∧ w0.cell? ⟨w.heap.size, 4, none⟩ = some (.int .u64 c)) ∧ (w0.cell? ⟨w.heap.size + 1, 0, none⟩ = some (.int .u64 0) ∧ w0.cell? ⟨w.heap.size + 1, 1, none⟩ = some (.int .i64 0) ∧ w0.cell? ⟨w.heap.size + 1, 2, none⟩ = some (.bool false)) ∧ (w0.frozen? ⟨w.heap.size + 1, 0, none⟩ = false ∧ w0.frozen? ⟨w.heap.size + 1, 1, none⟩ = false ∧ w0.frozen? ⟨w.heap.size + 1, 2, none⟩ = false) := by
    refine ⟨⟨?_, ?_, ?_, ?_, ?_⟩, ⟨?_, ?_, ?_⟩, ?_, ?_, ?_⟩
    all_goals first | (rw [hb0.cell (by first | (simp; done) | (simp; omega))]; go_simp; done) | (rw [hb0.frozen (by first | (simp; done) | (simp; omega))]; go_simp; done)
  have hB : Below w.heap.size w w0 := by
    have h1 : Below w.heap.size w ((w.alloc (.cells #[.int .i64 op, .int .i64 md, .int .u64 a, .int .u64 b, .int .u64 c] 68)).alloc (.cells #[.int .u64 0, .int .i64 0, .bool false] 66)) := ((Below.refl _ w).alloc (by simp) _).alloc (by simp) _
    exact h1.trans (hb0.mono h1.size)
  obtain ⟨⟨r0, r1, r2, r3, r4⟩, ⟨o0, o1, o2⟩, p0, p1, p2⟩ := hk
  clear hb0 C hz0
  go_wp2_with fail
  go_loopw [5, 6, 7, 8] (fun f l i _ wr => ∃ (k : Nat) (F : Int), i = .int .i64 k ∧ k ≤ n ∧ f = .int .i64 F ∧ Hid (FirstAt a b c k F) ∧ l = .int .i64 (nanF a b c k) ∧ w0 = wr) (fun _ _ i _ _ => n - (intOf i).toNat)
  case atStart => exact ⟨0, -1, rfl, Nat.zero_le _, rfl, .inl ⟨rfl, rfl⟩, rfl, rfl⟩
  case round =>
    obtain ⟨k, F, rfl, hk, rfl, hF, rfl, rfl⟩ := hrel
    by_cases hkn : k < n
    · have hxk := hx k hkn
      have ux := opnd_u (i := k) ua ub uc
      have sF : nanF a b c (k + 1) = if kindN (opnd a b c k) = 5 then 16 else nanF a b c k := rfl
      have KC := Lib.hid (fun W => kind_any (opnd a b c k) ux W)
      have h6 := kindN_lt (opnd a b c k)
      obtain ⟨s1, s2, s3⟩ := first_step hF.out
      have rel : ∀ (F' : Int), FirstAt a b c (k + 1) F' → ∀ l, l = nanF a b c (k + 1) → ∃ (k' : Nat) (F'' : Int), Value.int .i64 ((k : Int) + 1) = .int .i64 k' ∧ k' ≤ n ∧ Value.int .i64 F' = .int .i64 F'' ∧ Hid (FirstAt a b c k' F'') ∧ Value.int .i64 (l : Nat) = .int .i64 (nanF a b c k') ∧ w0 = w0 := fun F' h l hl => ⟨k + 1, F', rfl, hkn, rfl, h, by rw [hl], rfl⟩
      rw [sF] at rel
      replace rel := Lib.hid rel
      replace s1 := Lib.hid s1
      replace s2 := Lib.hid s2
      replace s3 := Lib.hid s3
      clear sF hx ux hF
      generalize nanF a b c k = fl at *
      generalize opnd a b c k = x at *
      generalize kindN x = K at *
      have hcs : K < 4 ∨ K = 4 ∨ K = 5 := by omega
      rcases hcs with h4 | rfl | rfl
      · rw [if_neg (by omega)] at rel
        have h4a : decide ((4 : Int) ≤ K) = false := decide_eq_false (by omega)
        have h4b : ((K : Int) == 5) = false := by rw [beq_eq_false_iff_ne]; omega
        go_wp2_with (go_at_call 43; refine (KC.out _).mono ?_; rintro e w' ⟨rfl, rfl⟩)
        go_roundw
        case rel => exact rel.out _ (s1.out h4) _ rfl
        case measure => simp [intOf]; omega
      · rw [if_neg (show ¬ 4 = 5 by decide)] at rel
        by_cases hF0 : F < 0
        · go_wp2_with (go_at_call 43; refine (KC.out _).mono ?_; rintro e w' ⟨rfl, rfl⟩)
          go_roundw
          case rel => exact rel.out _ (s2.out (Nat.le_refl _) hF0) _ rfl
          case measure => simp [intOf]; omega
        · go_wp2_with (go_at_call 43; refine (KC.out _).mono ?_; rintro e w' ⟨rfl, rfl⟩)
          go_roundw
          case rel => exact rel.out _ (s3.out (Nat.le_refl _) (by omega)) _ rfl
          case measure => simp [intOf]; omega
      · rw [if_pos rfl] at rel
        by_cases hF0 : F < 0
        · go_wp2_with (go_at_call 43; refine (KC.out _).mono ?_; rintro e w' ⟨rfl, rfl⟩)
          go_roundw
          case rel => exact rel.out _ (s2.out (by decide) hF0) 16 rfl
          case measure => simp [intOf]; omega
        · go_wp2_with (go_at_call 43; refine (KC.out _).mono ?_; rintro e w' ⟨rfl, rfl⟩)
          go_roundw
          case rel => exact rel.out _ (s3.out (by decide) (by omega)) 16 rfl
          case measure => simp [intOf]; omega
    · obtain rfl : k = n := by omega
      clear hkn hk
      rcases hF.out with ⟨rfl, hS⟩ | ⟨j, rfl, hj, hS, hB2⟩
      · have hR := nanR_no (op := op) hS
        rw [hR0.out] at hR
        subst hR
        obtain ⟨z1, z2⟩ := nanS_no hS
        rw [z2]
        clear hS hR0 hF
        go_wp2_with fail
        refine bodyPost_ret (v := .tuple #[RV 0 0 false, .bool false]) (by simp [results, Tryd.results45, go_sem, *]) rfl ⟨rfl, ?_⟩
        repeat' (first | with_reducible exact Below.refl _ _ | with_reducible assumption | with_reducible refine Below.drew ?_ | with_reducible refine bdrewN ?_ _ | with_reducible refine Below.alloc ?_ ?_ _ | with_reducible refine Below.setCell ?_ ?_ _ | with_reducible refine Below.trans ?_ (Below.mono (by assumption) ?_) | omega | (simp; done) | (simp; omega))
      · have hxj := hx j hj
        have hor := quiet_or (opnd_u (i := j) ua ub uc)
        have hR : R = (if op = 5 ∧ kindN c = 4 ∧ ((kindN a = 0 ∧ kindN b = 3) ∨ (kindN a = 3 ∧ kindN b = 0)) then (true, 9221120237041090560, 16)
            else if op = 9 ∧ nanF a b c k = 0 ∧ (kindN a = 3 ∨ kindN b = 3) then (true, 9218868437227405312, 0) else (true, nanB a b c k, nanF a b c k)) := by rw [← hR0.out]; unfold nanR; rw [if_neg (by rw [hS]; decide)]
        replace hR := Lib.hid hR
        rw [← hB2] at hor
        have Ka := Lib.hid (fun W => kind_any a ua W)
        have Kb := Lib.hid (fun W => kind_any b ub W)
        have Kc := Lib.hid (fun W => kind_any c uc W)
        clear hR0 hF hx hS hB2 ua ub uc
        generalize nanB a b c k = bt at *
        generalize nanF a b c k = fl at *
        generalize opnd a b c j = x at *
        generalize kindN a = ka at *
        generalize kindN b = kb at *
        generalize kindN c = kc at *
        by_cases h5 : op = 5
        · subst h5
          by_cases hc4 : kc = 4
          · subst hc4
            by_cases ha : ka = 0 ∧ kb = 3
            · obtain ⟨rfl, rfl⟩ := ha
              obtain rfl : R = (true, 9221120237041090560, 16) := by rw [hR.out]; simp
              clear hR
              go_wp2_with (first | (go_at_call_of 43 (Value.int IntKind.u64 a); refine (Ka.out _).mono ?_; rintro e w' ⟨rfl, rfl⟩) | (go_at_call_of 43 (Value.int IntKind.u64 b); refine (Kb.out _).mono ?_; rintro e w' ⟨rfl, rfl⟩) | (go_at_call_of 43 (Value.int IntKind.u64 c); refine (Kc.out _).mono ?_; rintro e w' ⟨rfl, rfl⟩))
              all_goals refine bodyPost_ret (v := .tuple #[RV 9221120237041090560 16 false, .bool true]) (by simp [results, Tryd.results45, go_sem, *]) rfl ⟨rfl, ?_⟩
              repeat' (first | with_reducible exact Below.refl _ _ | with_reducible assumption | with_reducible refine Below.drew ?_ | with_reducible refine bdrewN ?_ _ | with_reducible refine Below.alloc ?_ ?_ _ | with_reducible refine Below.setCell ?_ ?_ _ | with_reducible refine Below.trans ?_ (Below.mono (by assumption) ?_) | omega | (simp; done) | (simp; omega))
            · by_cases hb : ka = 3 ∧ kb = 0
              · obtain ⟨rfl, rfl⟩ := hb
                obtain rfl : R = (true, 9221120237041090560, 16) := by rw [hR.out]; simp
                clear hR
                go_wp2_with (first | (go_at_call_of 43 (Value.int IntKind.u64 a); refine (Ka.out _).mono ?_; rintro e w' ⟨rfl, rfl⟩) | (go_at_call_of 43 (Value.int IntKind.u64 b); refine (Kb.out _).mono ?_; rintro e w' ⟨rfl, rfl⟩) | (go_at_call_of 43 (Value.int IntKind.u64 c); refine (Kc.out _).mono ?_; rintro e w' ⟨rfl, rfl⟩))
                all_goals refine bodyPost_ret (v := .tuple #[RV 9221120237041090560 16 false, .bool true]) (by simp [results, Tryd.results45, go_sem, *]) rfl ⟨rfl, ?_⟩
                repeat' (first | with_reducible exact Below.refl _ _ | with_reducible assumption | with_reducible refine Below.drew ?_ | with_reducible refine bdrewN ?_ _ | with_reducible refine Below.alloc ?_ ?_ _ | with_reducible refine Below.setCell ?_ ?_ _ | with_reducible refine Below.trans ?_ (Below.mono (by assumption) ?_) | omega | (simp; done) | (simp; omega))
              · have f1 : ((ka : Int) == 0 && (kb : Int) == 3) = false := by rw [Bool.and_eq_false_iff, beq_eq_false_iff_ne, beq_eq_false_iff_ne]; omega
                have f2 : ((ka : Int) == 3 && (kb : Int) == 0) = false := by rw [Bool.and_eq_false_iff, beq_eq_false_iff_ne, beq_eq_false_iff_ne]; omega
                obtain rfl : R = (true, bt, fl) := by rw [hR.out]; rw [if_neg (by omega), if_neg (by omega)]
                clear hR
                go_wp2_with (first | (go_at_call_of 43 (Value.int IntKind.u64 a); refine (Ka.out _).mono ?_; rintro e w' ⟨rfl, rfl⟩) | (go_at_call_of 43 (Value.int IntKind.u64 b); refine (Kb.out _).mono ?_; rintro e w' ⟨rfl, rfl⟩) | (go_at_call_of 43 (Value.int IntKind.u64 c); refine (Kc.out _).mono ?_; rintro e w' ⟨rfl, rfl⟩))
                all_goals refine bodyPost_ret (v := .tuple #[RV bt fl false, .bool true]) (by simp [results, Tryd.results45, go_sem, *]) rfl ⟨rfl, ?_⟩
                repeat' (first | with_reducible exact Below.refl _ _ | with_reducible assumption | with_reducible refine Below.drew ?_ | with_reducible refine bdrewN ?_ _ | with_reducible refine Below.alloc ?_ ?_ _ | with_reducible refine Below.setCell ?_ ?_ _ | with_reducible refine Below.trans ?_ (Below.mono (by assumption) ?_) | omega | (simp; done) | (simp; omega))
          · have f1 : ((kc : Int) == 4) = false := by rw [beq_eq_false_iff_ne]; omega
            obtain rfl : R = (true, bt, fl) := by rw [hR.out]; rw [if_neg (by omega), if_neg (by omega)]
            clear hR
            go_wp2_with (first | (go_at_call_of 43 (Value.int IntKind.u64 a); refine (Ka.out _).mono ?_; rintro e w' ⟨rfl, rfl⟩) | (go_at_call_of 43 (Value.int IntKind.u64 b); refine (Kb.out _).mono ?_; rintro e w' ⟨rfl, rfl⟩) | (go_at_call_of 43 (Value.int IntKind.u64 c); refine (Kc.out _).mono ?_; rintro e w' ⟨rfl, rfl⟩))
            all_goals refine bodyPost_ret (v := .tuple #[RV bt fl false, .bool true]) (by simp [results, Tryd.results45, go_sem, *]) rfl ⟨rfl, ?_⟩
            repeat' (first | with_reducible exact Below.refl _ _ | with_reducible assumption | with_reducible refine Below.drew ?_ | with_reducible refine bdrewN ?_ _ | with_reducible refine Below.alloc ?_ ?_ _ | with_reducible refine Below.setCell ?_ ?_ _ | with_reducible refine Below.trans ?_ (Below.mono (by assumption) ?_) | omega | (simp; done) | (simp; omega))
        · have f5 : ((op : Int) == 5) = false := by rw [beq_eq_false_iff_ne]; omega
          by_cases h9 : op = 9
          · subst h9
            by_cases hf0 : fl = 0
            · subst hf0
              by_cases ha : ka = 3
              · subst ha
                obtain rfl : R = (true, 9218868437227405312, 0) := by rw [hR.out]; simp
                clear hR
                go_wp2_with (first | (go_at_call_of 43 (Value.int IntKind.u64 a); refine (Ka.out _).mono ?_; rintro e w' ⟨rfl, rfl⟩) | (go_at_call_of 43 (Value.int IntKind.u64 b); refine (Kb.out _).mono ?_; rintro e w' ⟨rfl, rfl⟩) | (go_at_call_of 43 (Value.int IntKind.u64 c); refine (Kc.out _).mono ?_; rintro e w' ⟨rfl, rfl⟩))
                all_goals refine bodyPost_ret (v := .tuple #[RV 9218868437227405312 0 false, .bool true]) (by simp [results, Tryd.results45, go_sem, *]) rfl ⟨rfl, ?_⟩
                repeat' (first | with_reducible exact Below.refl _ _ | with_reducible assumption | with_reducible refine Below.drew ?_ | with_reducible refine bdrewN ?_ _ | with_reducible refine Below.alloc ?_ ?_ _ | with_reducible refine Below.setCell ?_ ?_ _ | with_reducible refine Below.trans ?_ (Below.mono (by assumption) ?_) | omega | (simp; done) | (simp; omega))
              · have f1 : ((ka : Int) == 3) = false := by rw [beq_eq_false_iff_ne]; omega
                by_cases hb : kb = 3
                · subst hb
                  obtain rfl : R = (true, 9218868437227405312, 0) := by rw [hR.out]; simp
                  clear hR
                  go_wp2_with (first | (go_at_call_of 43 (Value.int IntKind.u64 a); refine (Ka.out _).mono ?_; rintro e w' ⟨rfl, rfl⟩) | (go_at_call_of 43 (Value.int IntKind.u64 b); refine (Kb.out _).mono ?_; rintro e w' ⟨rfl, rfl⟩) | (go_at_call_of 43 (Value.int IntKind.u64 c); refine (Kc.out _).mono ?_; rintro e w' ⟨rfl, rfl⟩))
                  all_goals refine bodyPost_ret (v := .tuple #[RV 9218868437227405312 0 false, .bool true]) (by simp [results, Tryd.results45, go_sem, *]) rfl ⟨rfl, ?_⟩
                  repeat' (first | with_reducible exact Below.refl _ _ | with_reducible assumption | with_reducible refine Below.drew ?_ | with_reducible refine bdrewN ?_ _ | with_reducible refine Below.alloc ?_ ?_ _ | with_reducible refine Below.setCell ?_ ?_ _ | with_reducible refine Below.trans ?_ (Below.mono (by assumption) ?_) | omega | (simp; done) | (simp; omega))
                · have f2 : ((kb : Int) == 3) = false := by rw [beq_eq_false_iff_ne]; omega
                  obtain rfl : R = (true, bt, 0) := by rw [hR.out]; rw [if_neg (by omega), if_neg (by omega)]
                  clear hR
                  go_wp2_with (first | (go_at_call_of 43 (Value.int IntKind.u64 a); refine (Ka.out _).mono ?_; rintro e w' ⟨rfl, rfl⟩) | (go_at_call_of 43 (Value.int IntKind.u64 b); refine (Kb.out _).mono ?_; rintro e w' ⟨rfl, rfl⟩) | (go_at_call_of 43 (Value.int IntKind.u64 c); refine (Kc.out _).mono ?_; rintro e w' ⟨rfl, rfl⟩))
                  all_goals refine bodyPost_ret (v := .tuple #[RV bt 0 false, .bool true]) (by simp [results, Tryd.results45, go_sem, *]) rfl ⟨rfl, ?_⟩
                  repeat' (first | with_reducible exact Below.refl _ _ | with_reducible assumption | with_reducible refine Below.drew ?_ | with_reducible refine bdrewN ?_ _ | with_reducible refine Below.alloc ?_ ?_ _ | with_reducible refine Below.setCell ?_ ?_ _ | with_reducible refine Below.trans ?_ (Below.mono (by assumption) ?_) | omega | (simp; done) | (simp; omega))
            · have f1 : ((fl : Int) == 0) = false := by rw [beq_eq_false_iff_ne]; omega
              obtain rfl : R = (true, bt, fl) := by rw [hR.out]; rw [if_neg (by omega), if_neg (by omega)]
              clear hR
              go_wp2_with (first | (go_at_call_of 43 (Value.int IntKind.u64 a); refine (Ka.out _).mono ?_; rintro e w' ⟨rfl, rfl⟩) | (go_at_call_of 43 (Value.int IntKind.u64 b); refine (Kb.out _).mono ?_; rintro e w' ⟨rfl, rfl⟩) | (go_at_call_of 43 (Value.int IntKind.u64 c); refine (Kc.out _).mono ?_; rintro e w' ⟨rfl, rfl⟩))
              all_goals refine bodyPost_ret (v := .tuple #[RV bt fl false, .bool true]) (by simp [results, Tryd.results45, go_sem, *]) rfl ⟨rfl, ?_⟩
              repeat' (first | with_reducible exact Below.refl _ _ | with_reducible assumption | with_reducible refine Below.drew ?_ | with_reducible refine bdrewN ?_ _ | with_reducible refine Below.alloc ?_ ?_ _ | with_reducible refine Below.setCell ?_ ?_ _ | with_reducible refine Below.trans ?_ (Below.mono (by assumption) ?_) | omega | (simp; done) | (simp; omega))
          · have f9 : ((op : Int) == 9) = false := by rw [beq_eq_false_iff_ne]; omega
            obtain rfl : R = (true, bt, fl) := by rw [hR.out]; rw [if_neg (by omega), if_neg (by omega)]
            clear hR
            go_wp2_with (first | (go_at_call_of 43 (Value.int IntKind.u64 a); refine (Ka.out _).mono ?_; rintro e w' ⟨rfl, rfl⟩) | (go_at_call_of 43 (Value.int IntKind.u64 b); refine (Kb.out _).mono ?_; rintro e w' ⟨rfl, rfl⟩) | (go_at_call_of 43 (Value.int IntKind.u64 c); refine (Kc.out _).mono ?_; rintro e w' ⟨rfl, rfl⟩))
            all_goals refine bodyPost_ret (v := .tuple #[RV bt fl false, .bool true]) (by simp [results, Tryd.results45, go_sem, *]) rfl ⟨rfl, ?_⟩
            repeat' (first | with_reducible exact Below.refl _ _ | with_reducible assumption | with_reducible refine Below.drew ?_ | with_reducible refine bdrewN ?_ _ | with_reducible refine Below.alloc ?_ ?_ _ | with_reducible refine Below.setCell ?_ ?_ _ | with_reducible refine Below.trans ?_ (Below.mono (by assumption) ?_) | omega | (simp; done) | (simp; omega))
end Go.Proofs.YtldmbneckcjonaaDoor
