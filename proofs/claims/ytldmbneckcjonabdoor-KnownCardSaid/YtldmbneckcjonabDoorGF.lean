/- Several texts in one: softfloatlaw.around: the walk. · Plain: the results of one record in all modes. No program in sight; each lemma states its own conditions. · softfloatlaw.lives. · softfloatlaw.around, whole. · softfloatlaw.rooted: the walk. · softfloatlaw.rooted, whole: closed facts of the later operations. -/
import Derived.Laws.OwnMore
import Derived.OwnWalk
import Derived.Below
import Derived.Deep.QuietTactic
import Derived.BigQuiet
import Derived.Deep.Cut
import Derived.Test.YtldmbneckcjonabDoorGY
import Derived.Test.YtldmbneckcjonabDoorGS
import Derived.Test.YtldmbneckcjonabDoorGW
import Derived.Test.YtldmbneckcjonabDoorGL
import Derived.Test.YtldmbneckcjonabDoorGM
set_option linter.unusedVariables false
set_option linter.unusedSimpArgs false
namespace Go.Proofs.YtldmbneckcjonabDoor
open Go.RowKit
theorem env_start5 (op md : Int) (a b c : Nat) (w : World) : Env w (w.heap.size + 1) ((w.heap.size, 0, .int .i64 op) :: (w.heap.size, 1, .int .i64 md) :: (w.heap.size, 2, .int .u64 a) :: (w.heap.size, 3, .int .u64 b) :: (w.heap.size, 4, .int .u64 c) :: []) (w.alloc (.cells #[.int .i64 op, .int .i64 md, .int .u64 a, .int .u64 b, .int .u64 c] 27)) := by
  have h := (Env.nil (Below.refl w.heap.size w)).alloc (.cells #[.int .i64 op, .int .i64 md, .int .u64 a, .int .u64 b, .int .u64 c] 27)
  have h2 := h.raise (B2 := w.heap.size + 1) (by omega) (by simp)
  exact ((((h2.add (g := w.heap.size) (i := 4) (by go_simp) (by omega)).add (i := 3) (by go_simp) (by omega)).add (i := 2) (by go_simp) (by omega)).add (i := 1) (by go_simp) (by omega)).add (i := 0) (by go_simp) (by omega)
/-- The cells of the first j results. -/
def rowN (bt fl : Nat → Nat) (j : Nat) : List Value := (List.range j).flatMap fun i => [.int .u64 (bt i), .int .u8 (fl i), .bool false]
theorem rowN_succ (bt fl : Nat → Nat) (j : Nat) : rowN bt fl (j + 1) = rowN bt fl j ++ [.int .u64 (bt j), .int .u8 (fl j), .bool false] := by
  unfold rowN; rw [List.range_succ, List.flatMap_append]; rfl
theorem infoR : (Tryd.prog.info? 33).map (fun i => (i.zero, i.size, i.bytes)) = some (some (.agg #[.int .u64 0, .int .u8 0, .bool false]), 3, 16) := by kernel_rfl
theorem own_hold {w w' : World} {base size m : Nat} {e : TypeId} {v : Value} {xs : List Value} (h : w.ownsRow base e size v m xs) (hb : Below w.heap.size w w') : w'.ownsRow base e size v m xs := by
  refine h.kept (⟨hb.os, hb.tape, hb.output, hb.size, fun k hk _ => hb.block k hk⟩ : w.grownBy w' none) ?_
  cases hv : v.ownBlock with
  | none => exact .inl rfl
  | some g => exact .inr (by simp)
theorem Env.grown {w W W1 : World} {B : Nat} {C : List (Nat × Nat × Value)} {row : Option Nat} (h : Env w B C W) (hg : W.grownBy W1 row) (hr : ∀ k, row = some k → B ≤ k) : Env w B C W1 := by
  obtain ⟨h1, h2, h3, h4⟩ := h
  refine ⟨fun x hx => ?_, h2.grown hg (by omega) (fun k hk => Nat.le_trans h3 (hr k hk)), h3, Nat.le_trans h4 hg.size⟩
  obtain ⟨e, hl⟩ := h1 x hx
  refine ⟨hg.cell e ?_, hl⟩
  intro he
  have := hr _ he.symm
  show False
  have : B ≤ x.1 := this
  omega
theorem new_cells3 (W : World) (t : TypeId) (x y z : Value) {g : Nat} (hg : W.heap.size = g) : ∀ j u, [x, y, z][j]? = some u → (W.alloc (.cells #[x, y, z] t)).cell? ((⟨g, 0, none⟩ : Addr).add j) = some u := by
  subst hg
  intro j u hu
  match j, hu with
  | 0, hu => simp only [List.getElem?_cons_zero] at hu; cases hu; rw [show (⟨W.heap.size, 0, none⟩ : Addr).add 0 = ⟨W.heap.size, 0, none⟩ from rfl]; go_simp
  | 1, hu => simp only [List.getElem?_cons_succ, List.getElem?_cons_zero] at hu; cases hu; rw [show (⟨W.heap.size, 0, none⟩ : Addr).add 1 = ⟨W.heap.size, 1, none⟩ from rfl]; go_simp
  | 2, hu => simp only [List.getElem?_cons_succ, List.getElem?_cons_zero] at hu; cases hu; rw [show (⟨W.heap.size, 0, none⟩ : Addr).add 2 = ⟨W.heap.size, 2, none⟩ from rfl]; go_simp
  | j + 3, hu => simp at hu
theorem own_ge3 {w : World} {base size m : Nat} {e : TypeId} {v : Value} {xs : List Value} (h : w.ownsRow base e size v m xs) : ∀ g, v.ownBlock = some g → base ≤ g := fun g hg => (h.lt g hg).1
theorem row_formed {w : World} {base size n : Nat} {e : TypeId} {v : Value} {xs : List Value} (h : w.ownsRow base e size v n xs) (hn : 0 < n) : ∃ g cap, v = .slice (some ⟨g, 0, none⟩) n cap := by
  rcases h.2 with ⟨_, h⟩ | ⟨g, cap, _, e, _⟩
  · omega
  · exact ⟨g, cap, e⟩
theorem rowN_5 (bt fl : Nat → Nat) : rowN bt fl 5 = [.int .u64 (bt 0), .int .u8 (fl 0), .bool false, .int .u64 (bt 1), .int .u8 (fl 1), .bool false, .int .u64 (bt 2), .int .u8 (fl 2), .bool false, .int .u64 (bt 3), .int .u8 (fl 3), .bool false, .int .u64 (bt 4), .int .u8 (fl 4), .bool false] := rfl
theorem env_row {w W : World} {B g cap base : Nat} {C : List (Nat × Nat × Value)} {e : TypeId} {bt fl : Nat → Nat} (h : Env w B C W) (hown : W.ownsRow base e 3 (.slice (some ⟨g, 0, none⟩) 5 cap) 5 (rowN bt fl 5)) : Env w W.heap.size ((g, 0, .int .u64 (bt 0)) :: (g, 1, .int .u8 (fl 0)) :: (g, 2, .bool false) :: (g, 3, .int .u64 (bt 1)) :: (g, 4, .int .u8 (fl 1)) :: (g, 5, .bool false) :: (g, 6, .int .u64 (bt 2)) :: (g, 7, .int .u8 (fl 2)) :: (g, 8, .bool false) :: (g, 9, .int .u64 (bt 3)) :: (g, 10, .int .u8 (fl 3)) :: (g, 11, .bool false) :: (g, 12, .int .u64 (bt 4)) :: (g, 13, .int .u8 (fl 4)) :: (g, 14, .bool false) :: []) W := by
  have hc := fun j hj => hown.cellAt j hj
  rw [rowN_5] at hc
  have hg : g < W.heap.size := (hown.lt g rfl).2
  exact ((((((((((((((((h.raise h.size (Nat.le_refl _)).sub (fun x hx => absurd hx List.not_mem_nil)).add (i := 14) (hc 14 (by decide)) hg).add (i := 13) (hc 13 (by decide)) hg).add (i := 12) (hc 12 (by decide)) hg).add (i := 11) (hc 11 (by decide)) hg).add (i := 10) (hc 10 (by decide)) hg).add (i := 9) (hc 9 (by decide)) hg).add (i := 8) (hc 8 (by decide)) hg).add (i := 7) (hc 7 (by decide)) hg).add (i := 6) (hc 6 (by decide)) hg).add (i := 5) (hc 5 (by decide)) hg).add (i := 4) (hc 4 (by decide)) hg).add (i := 3) (hc 3 (by decide)) hg).add (i := 2) (hc 2 (by decide)) hg).add (i := 1) (hc 1 (by decide)) hg).add (i := 0) (hc 0 (by decide)) hg
/-- Of numbers that are no NaNs: how the results in the five modes stand. -/
def AroundOk (u d k0 k1 k2 : Int) (fl : Nat → Nat) : Prop := ∃ F : Int, (IntKind.i64.wrap (u - d) = u - d ∧ d ≤ u ∧ u ≤ d + 1) ∧ (k0 = u ∨ k0 = d) ∧ (k1 = u ∨ k1 = d) ∧ (k2 = u ∨ k2 = d) ∧
  (bits .and .u8 (fl 0 : Int) 1 = F ∧ bits .and .u8 (fl 1 : Int) 1 = F ∧ bits .and .u8 (fl 2 : Int) 1 = F ∧ bits .and .u8 (fl 3 : Int) 1 = F) ∧ ((F == 0) == (u == d)) = true ∧ ((decide (0 < u) && (k2 == d)) || (decide (d < 0) && (k2 == u)) || (u == d)) = true
theorem or_split {k u d : Int} (h : k = u ∨ k = d) : k = u ∨ (k = d ∧ (!(d == u)) = true ∧ ¬ d = u) := by
  by_cases hu : k = u
  · exact .inl hu
  · have hd := h.resolve_left hu
    have hn : ¬ d = u := fun e => hu (hd.trans e)
    refine .inr ⟨hd, ?_, hn⟩
    rw [beq_eq_false_iff_ne.2 hn]; rfl
theorem one_three {x y : Nat} {z : Bool} : ∀ u ∈ [Value.int .u64 x, .int .u8 y, .bool z], u.oneCell' = true := by
  intro u hu
  simp only [List.mem_cons, List.not_mem_nil, or_false] at hu
  rcases hu with rfl | rfl | rfl <;> rfl
set_option maxRecDepth 100000 in
set_option maxHeartbeats 4000000 in
theorem around_loop (op md : Int) (a b c o t : Nat) (bt fl : Nat → Nat) (n0 : Bool) (u d k0 k1 k2 : Int) (hm : IntKind.u8.wrap op = o) (ho : wrap64 (o : Int) = o) (h1 : decide ((o : Int) < 1) = false) (h9 : decide ((9 : Int) < o) = false)
    (G : Hid (∀ W, Calls Tryd.prog 10 #[LREC op md a b c] W fun e w' => e = .returned (REC o t a b c) ∧ Below W.heap.size W w'))
    (D : Hid (∀ j : Nat, j < 5 → ∀ W, TableAt W → Calls Tryd.prog 9 #[REC o j a b c] W (SoftOut (bt j) (fl j) false W)))
    (N0 : Hid (∀ W, Calls Tryd.prog 11 #[.int .u64 (bt 0)] W fun e w' => e = .returned (.bool n0) ∧ W = w'))
    (O3 : Hid (∀ W, Calls Tryd.prog 12 #[.int .u64 (bt 3)] W fun e w' => e = .returned (.int .i64 u) ∧ W = w')) (O4 : Hid (∀ W, Calls Tryd.prog 12 #[.int .u64 (bt 4)] W fun e w' => e = .returned (.int .i64 d) ∧ W = w'))
    (O0 : Hid (∀ W, Calls Tryd.prog 12 #[.int .u64 (bt 0)] W fun e w' => e = .returned (.int .i64 k0) ∧ W = w')) (O1 : Hid (∀ W, Calls Tryd.prog 12 #[.int .u64 (bt 1)] W fun e w' => e = .returned (.int .i64 k1) ∧ W = w')) (O2 : Hid (∀ W, Calls Tryd.prog 12 #[.int .u64 (bt 2)] W fun e w' => e = .returned (.int .i64 k2) ∧ W = w'))
    (hcase : (n0 = true ∧ Hid (∀ j, j < 5 → bt j = bt 0 ∧ fl j = fl 0)) ∨ (n0 = false ∧ Hid (AroundOk u d k0 k1 k2 fl)))
    (w : World) (hT : Hid (TableAt w)) : Calls Tryd.prog 7 #[LREC op md a b c] w fun e w' => e = .returned (.bool true) ∧ Below w.heap.size w w' := by
  have hE0 := env_start5 op md a b c w
  obtain ⟨i0, hi, hz0, hz1, hz2⟩ := info_parts infoR
  go_enter Tryd.func7, Tryd.ntmps7
  go_wp2_with fail
  clear hm ho h1 h9
  go_loopw [4, 5] (fun l i wr => ∃ j : Nat, i = .int .i64 j ∧ j ≤ 5 ∧ Env w (w.heap.size + 1) ((w.heap.size, 0, .int .i64 op) :: (w.heap.size, 1, .int .i64 md) :: (w.heap.size, 2, .int .u64 a) :: (w.heap.size, 3, .int .u64 b) :: (w.heap.size, 4, .int .u64 c) :: []) wr ∧ wr.ownsRow (w.heap.size + 1) 33 3 l j (rowN bt fl j)) (fun _ i _ => 5 - (intOf i).toNat)
  case atStart => exact ⟨0, rfl, by omega, hE0, World.ownsRow_nil _ _ _ _⟩
  case round =>
    obtain ⟨j, rfl, hj, hE, hown⟩ := hrel
    by_cases hlt : j < 5
    · have c5 : ((j : Int) < 5) = True := eq_true (by omega)
      have rel : ∀ (l : Value) (wr' : World), Env w (w.heap.size + 1) ((w.heap.size, 0, .int .i64 op) :: (w.heap.size, 1, .int .i64 md) :: (w.heap.size, 2, .int .u64 a) :: (w.heap.size, 3, .int .u64 b) :: (w.heap.size, 4, .int .u64 c) :: []) wr' → wr'.ownsRow (w.heap.size + 1) 33 3 l (j + 1) (rowN bt fl (j + 1)) → ∃ j' : Nat, Value.int .i64 ((j : Int) + 1) = .int .i64 j' ∧ j' ≤ 5 ∧ Env w (w.heap.size + 1) ((w.heap.size, 0, .int .i64 op) :: (w.heap.size, 1, .int .i64 md) :: (w.heap.size, 2, .int .u64 a) :: (w.heap.size, 3, .int .u64 b) :: (w.heap.size, 4, .int .u64 c) :: []) wr' ∧ wr'.ownsRow (w.heap.size + 1) 33 3 l j' (rowN bt fl j') := fun l wr' h1 h2 => ⟨j + 1, rfl, hlt, h1, h2⟩
      replace rel := Lib.hid rel
      have hj8 : IntKind.u8.wrap (j : Int) = j := by rw [IntKind.wrap_u8]; omega
      have D1 := Lib.hid (D.out j hlt)
      have r0 := hE.get (b := w.heap.size) (i := 0) (v := .int .i64 op) (by simp)
      have r1 := hE.get (b := w.heap.size) (i := 1) (v := .int .i64 md) (by simp)
      have r2 := hE.get (b := w.heap.size) (i := 2) (v := .int .u64 a) (by simp)
      have r3 := hE.get (b := w.heap.size) (i := 3) (v := .int .u64 b) (by simp)
      have r4 := hE.get (b := w.heap.size) (i := 4) (v := .int .u64 c) (by simp)
      go_wp2_with fail
      refine (G.out _).mono ?_
      rintro e w1 ⟨rfl, hb1⟩
      have hE1 := Env.call hE hb1
      have hown1 := own_hold hown hb1
      clear hE hown hb1 r0 r1 r2 r3 r4
      go_wp2_with fail
      refine (D1.out _ (hT.out.below (Nat.le_refl _) (Env.below (hE1.alloc _)))).mono ?_
      rintro e w2 ⟨rfl, hb2⟩
      have hE2 := Env.call (hE1.alloc _) hb2
      have hown2 := own_hold (hown1.alloc _) hb2
      have hs2 := hE2.size
      clear hE1 hown1 hb2 D1
      go_wp2_with (at_builtin; refine wpList_append_own _ rfl _ _ 37 rfl (w.heap.size + 1) 33 i0 (.agg #[.int .u64 0, .int .u8 0, .bool false]) 3 16 Tryd.underlying37 hi hz0 hz1 hz2 rfl (by decide) _ _ _ rfl ((hown2.alloc _).alloc _) ⟨_, 0, none⟩ 1 1 [.int .u64 (bt j), .int .u8 (fl j), .bool false] rfl rfl (new_cells3 _ _ _ _ _ (by simp)) one_three (by unfold maxLen; omega) (by omega) (by simp; omega) ?_)
      intro v' w3 hown3 hgrow _
      have hE3 := Env.grown ((hE2.alloc _).alloc _) hgrow (own_ge3 hown2)
      rw [← rowN_succ] at hown3
      clear hE2 hown2 hgrow
      go_wp2
      go_roundw
      case rel => exact rel.out _ _ hE3 hown3
      case measure => simp [intOf]; omega
    · obtain rfl : j = 5 := by omega
      clear G D
      obtain ⟨g, cap, rfl⟩ := row_formed hown (by decide)
      obtain ⟨B5, hE5⟩ : ∃ B, Env w B ((g, 0, .int .u64 (bt 0)) :: (g, 1, .int .u8 (fl 0)) :: (g, 2, .bool false) :: (g, 3, .int .u64 (bt 1)) :: (g, 4, .int .u8 (fl 1)) :: (g, 5, .bool false) :: (g, 6, .int .u64 (bt 2)) :: (g, 7, .int .u8 (fl 2)) :: (g, 8, .bool false) :: (g, 9, .int .u64 (bt 3)) :: (g, 10, .int .u8 (fl 3)) :: (g, 11, .bool false) :: (g, 12, .int .u64 (bt 4)) :: (g, 13, .int .u8 (fl 4)) :: (g, 14, .bool false) :: []) wr := ⟨_, env_row hE hown⟩
      clear hE hown
      have hB := hE5.below
      have c0_0 := hE5.get (b := g) (i := 0) (v := .int .u64 (bt 0)) (by simp)
      have c0_1 := hE5.get (b := g) (i := 1) (v := .int .u8 (fl 0)) (by simp)
      have c0_2 := hE5.get (b := g) (i := 2) (v := .bool false) (by simp)
      have c1_0 := hE5.get (b := g) (i := 3) (v := .int .u64 (bt 1)) (by simp)
      have c1_1 := hE5.get (b := g) (i := 4) (v := .int .u8 (fl 1)) (by simp)
      have c1_2 := hE5.get (b := g) (i := 5) (v := .bool false) (by simp)
      have c2_0 := hE5.get (b := g) (i := 6) (v := .int .u64 (bt 2)) (by simp)
      have c2_1 := hE5.get (b := g) (i := 7) (v := .int .u8 (fl 2)) (by simp)
      have c2_2 := hE5.get (b := g) (i := 8) (v := .bool false) (by simp)
      have c3_0 := hE5.get (b := g) (i := 9) (v := .int .u64 (bt 3)) (by simp)
      have c3_1 := hE5.get (b := g) (i := 10) (v := .int .u8 (fl 3)) (by simp)
      have c3_2 := hE5.get (b := g) (i := 11) (v := .bool false) (by simp)
      have c4_0 := hE5.get (b := g) (i := 12) (v := .int .u64 (bt 4)) (by simp)
      have c4_1 := hE5.get (b := g) (i := 13) (v := .int .u8 (fl 4)) (by simp)
      have c4_2 := hE5.get (b := g) (i := 14) (v := .bool false) (by simp)
      clear hE0 hi hz0 hz1 hz2 hT
      rcases hcase with ⟨rfl, hall⟩ | ⟨rfl, hok⟩
      · clear O0 O1 O2 O3 O4 hE5
        obtain ⟨q1, p1⟩ := hall.out 1 (by decide)
        obtain ⟨q2, p2⟩ := hall.out 2 (by decide)
        obtain ⟨q3, p3⟩ := hall.out 3 (by decide)
        obtain ⟨q4, p4⟩ := hall.out 4 (by decide)
        rw [q1] at c1_0
        rw [p1] at c1_1
        rw [q2] at c2_0
        rw [p2] at c2_1
        rw [q3] at c3_0
        rw [p3] at c3_1
        rw [q4] at c4_0
        rw [p4] at c4_1
        clear hall q1 q2 q3 q4 p1 p2 p3 p4
        generalize bt 0 = b0 at *
        generalize fl 0 = f0 at *
        go_wp2_with (go_at_call 11; refine (N0.out _).mono ?_; rintro e w' ⟨rfl, rfl⟩)
        refine wp_loop_rounds 5 ?_
        iterate 4
          rw [rounds_succ]
          go_wp2_with fail
          go_quiet (fail)
          go_wp2_with fail
        rw [rounds_succ]
        go_wp2_with fail
        go_ret
        refine ⟨rfl, ?_⟩
        repeat' (first | with_reducible assumption | with_reducible refine bdrewN ?_ _)
      · obtain ⟨F, ⟨x1, x2, x3⟩, y0, y1, y2, ⟨z0, z1, z2, z3⟩, hF, hT⟩ := hok.out
        clear hok
        have g1 : decide ((1 : Int) < u - d) = false := decide_eq_false (by omega)
        have g2 : decide (u < d) = false := decide_eq_false (by omega)
        clear x2 x3
        go_wp2_with (first | (go_at_call 11; refine (N0.out _).mono ?_; rintro e w' ⟨rfl, rfl⟩) | (go_at_call_of 12 (Value.int IntKind.u64 (bt 3)); refine (O3.out _).mono ?_; rintro e w' ⟨rfl, rfl⟩) | (go_at_call_of 12 (Value.int IntKind.u64 (bt 4)); refine (O4.out _).mono ?_; rintro e w' ⟨rfl, rfl⟩))
        clear g1 g2 x1 N0 O3 O4
        replace hE5 := Lib.hid hE5
        go_loopw [12] (fun i wx => ∃ j : Nat, i = .int .i64 j ∧ j ≤ 3 ∧ Env w B5 ((g, 0, .int .u64 (bt 0)) :: (g, 1, .int .u8 (fl 0)) :: (g, 2, .bool false) :: (g, 3, .int .u64 (bt 1)) :: (g, 4, .int .u8 (fl 1)) :: (g, 5, .bool false) :: (g, 6, .int .u64 (bt 2)) :: (g, 7, .int .u8 (fl 2)) :: (g, 8, .bool false) :: (g, 9, .int .u64 (bt 3)) :: (g, 10, .int .u8 (fl 3)) :: (g, 11, .bool false) :: (g, 12, .int .u64 (bt 4)) :: (g, 13, .int .u8 (fl 4)) :: (g, 14, .bool false) :: []) wx) (fun i _ => 3 - (intOf i).toNat)
        case atStart => exact ⟨0, rfl, by omega, hE5.out⟩
        case round =>
          obtain ⟨j, rfl, hj3, hE6⟩ := hrel
          clear hE5 c0_0 c0_1 c0_2 c1_0 c1_1 c1_2 c2_0 c2_1 c2_2 c3_0 c3_1 c3_2 c4_0 c4_1 c4_2 hB
          by_cases hlt3 : j < 3
          · have rel : ∀ wr', Env w B5 ((g, 0, .int .u64 (bt 0)) :: (g, 1, .int .u8 (fl 0)) :: (g, 2, .bool false) :: (g, 3, .int .u64 (bt 1)) :: (g, 4, .int .u8 (fl 1)) :: (g, 5, .bool false) :: (g, 6, .int .u64 (bt 2)) :: (g, 7, .int .u8 (fl 2)) :: (g, 8, .bool false) :: (g, 9, .int .u64 (bt 3)) :: (g, 10, .int .u8 (fl 3)) :: (g, 11, .bool false) :: (g, 12, .int .u64 (bt 4)) :: (g, 13, .int .u8 (fl 4)) :: (g, 14, .bool false) :: []) wr' → ∃ j' : Nat, Value.int .i64 ((j : Int) + 1) = .int .i64 j' ∧ j' ≤ 3 ∧ Env w B5 ((g, 0, .int .u64 (bt 0)) :: (g, 1, .int .u8 (fl 0)) :: (g, 2, .bool false) :: (g, 3, .int .u64 (bt 1)) :: (g, 4, .int .u8 (fl 1)) :: (g, 5, .bool false) :: (g, 6, .int .u64 (bt 2)) :: (g, 7, .int .u8 (fl 2)) :: (g, 8, .bool false) :: (g, 9, .int .u64 (bt 3)) :: (g, 10, .int .u8 (fl 3)) :: (g, 11, .bool false) :: (g, 12, .int .u64 (bt 4)) :: (g, 13, .int .u8 (fl 4)) :: (g, 14, .bool false) :: []) wr' := fun wr' h => ⟨j + 1, rfl, hlt3, h⟩
            replace rel := Lib.hid rel
            rcases (show j = 0 ∨ j = 1 ∨ j = 2 by omega) with hj | hj | hj
            · obtain rfl : j = 0 := by omega
              have c0_0 := hE6.get (b := g) (i := 0) (v := .int .u64 (bt 0)) (by simp)
              have c0_1 := hE6.get (b := g) (i := 1) (v := .int .u8 (fl 0)) (by simp)
              have c0_2 := hE6.get (b := g) (i := 2) (v := .bool false) (by simp)
              have c3_0 := hE6.get (b := g) (i := 9) (v := .int .u64 (bt 3)) (by simp)
              have c3_1 := hE6.get (b := g) (i := 10) (v := .int .u8 (fl 3)) (by simp)
              have c3_2 := hE6.get (b := g) (i := 11) (v := .bool false) (by simp)
              rcases or_split y0 with hk | ⟨hk, hdu, hdv⟩
              all_goals
                rw [hk] at O0
                go_wp2_with (go_at_call 12; refine (O0.out _).mono ?_; rintro e w' ⟨rfl, rfl⟩)
                go_quiet (fail)
                go_wp2_with fail
                go_roundw
                case rel => exact rel.out _ (by repeat' (first | with_reducible assumption | with_reducible refine Env.drewN ?_ _))
                case measure => simp [intOf]
            · obtain rfl : j = 1 := by omega
              have c1_0 := hE6.get (b := g) (i := 3) (v := .int .u64 (bt 1)) (by simp)
              have c1_1 := hE6.get (b := g) (i := 4) (v := .int .u8 (fl 1)) (by simp)
              have c1_2 := hE6.get (b := g) (i := 5) (v := .bool false) (by simp)
              have c3_0 := hE6.get (b := g) (i := 9) (v := .int .u64 (bt 3)) (by simp)
              have c3_1 := hE6.get (b := g) (i := 10) (v := .int .u8 (fl 3)) (by simp)
              have c3_2 := hE6.get (b := g) (i := 11) (v := .bool false) (by simp)
              rcases or_split y1 with hk | ⟨hk, hdu, hdv⟩
              all_goals
                rw [hk] at O1
                go_wp2_with (go_at_call 12; refine (O1.out _).mono ?_; rintro e w' ⟨rfl, rfl⟩)
                go_quiet (fail)
                go_wp2_with fail
                go_roundw
                case rel => exact rel.out _ (by repeat' (first | with_reducible assumption | with_reducible refine Env.drewN ?_ _))
                case measure => simp [intOf]
            · obtain rfl : j = 2 := by omega
              have c2_0 := hE6.get (b := g) (i := 6) (v := .int .u64 (bt 2)) (by simp)
              have c2_1 := hE6.get (b := g) (i := 7) (v := .int .u8 (fl 2)) (by simp)
              have c2_2 := hE6.get (b := g) (i := 8) (v := .bool false) (by simp)
              have c3_0 := hE6.get (b := g) (i := 9) (v := .int .u64 (bt 3)) (by simp)
              have c3_1 := hE6.get (b := g) (i := 10) (v := .int .u8 (fl 3)) (by simp)
              have c3_2 := hE6.get (b := g) (i := 11) (v := .bool false) (by simp)
              rcases or_split y2 with hk | ⟨hk, hdu, hdv⟩
              all_goals
                rw [hk] at O2
                go_wp2_with (go_at_call 12; refine (O2.out _).mono ?_; rintro e w' ⟨rfl, rfl⟩)
                go_quiet (fail)
                go_wp2_with fail
                go_roundw
                case rel => exact rel.out _ (by repeat' (first | with_reducible assumption | with_reducible refine Env.drewN ?_ _))
                case measure => simp [intOf]
          · obtain rfl : j = 3 := by omega
            have c2_0 := hE6.get (b := g) (i := 6) (v := .int .u64 (bt 2)) (by simp)
            have c2_1 := hE6.get (b := g) (i := 7) (v := .int .u8 (fl 2)) (by simp)
            have c2_2 := hE6.get (b := g) (i := 8) (v := .bool false) (by simp)
            have c3_0 := hE6.get (b := g) (i := 9) (v := .int .u64 (bt 3)) (by simp)
            have c3_1 := hE6.get (b := g) (i := 10) (v := .int .u8 (fl 3)) (by simp)
            have c3_2 := hE6.get (b := g) (i := 11) (v := .bool false) (by simp)
            have hB := hE6.below
            clear hE6 y0 y1 y2 z0 z1 z2
            cases hP : decide (0 < u) <;> cases hQ : (k2 == d) <;> cases hR : decide (d < 0) <;> cases hS : (k2 == u) <;> cases hU : (u == d) <;> cases hX : (F == 0)
            all_goals
              rw [hX, hU] at hF
              rw [hP, hQ, hR, hS, hU] at hT
              first
                | exact absurd hF (by decide)
                | exact absurd hT (by decide)
                | (clear hF hT
                   go_wp2_with (go_at_call 12; refine (O2.out _).mono ?_; rintro e w' ⟨rfl, rfl⟩)
                   go_ret
                   exact ⟨rfl, hB⟩)
end Go.Proofs.YtldmbneckcjonabDoor
namespace Go.Proofs.YtldmbneckcjonabDoor
open Go.RowKit
/-- How the results of one record in the five modes stand. -/
def Fam (R : Nat → Nat × Nat) : Prop :=
  (nanQ (R 0).1 = true ∧ U64 (R 0).1 ∧ ∀ j, j < 5 → R j = R 0) ∨ (∃ ng T X, Near R ng T X) ∨ (∃ b f, U64 b ∧ f % 2 = 0 ∧ nanQ b = false ∧ ∀ j, j < 5 → R j = (b, f)) ∨ (∀ j, j < 5 → R j = (signN (decide (j = 4)), 0))
theorem fam_const {b f : Nat} (hb : U64 b) (hf : f % 2 = 0) : Fam (fun _ => (b, f)) := by
  cases h : nanQ b with
  | true => exact .inl ⟨h, hb, fun _ _ => rfl⟩
  | false => exact .inr (.inr (.inl ⟨b, f, hb, hf, h, fun _ _ => rfl⟩))
theorem nanQ_nan : nanQ 9221120237041090560 = true := by unfold nanQ; decide
theorem fam_nan {f : Nat} : Fam (fun _ => (9221120237041090560, f)) := .inl ⟨nanQ_nan, (by unfold U64; decide : U64 9221120237041090560), fun _ _ => rfl⟩
theorem fam_sign (g : Bool) {x f : Nat} (hx : x < 9223372036854775808) (hf : f % 2 = 0) : Fam (fun _ => (signN g + x, f)) := by
  refine fam_const ?_ hf
  have h2 : signN g ≤ 9223372036854775808 := by unfold signN; split <;> omega
  unfold U64; omega
theorem fam_sign0 (g : Bool) : Fam (fun _ => (signN g, 0)) := fam_sign g (x := 0) (by decide) rfl
theorem fam_round {n : Nat} {g l : Bool} {e : Int} (h0 : n ≠ 0) (hl : l = true → 54 ≤ bl n) : Fam (fun m => roundS m g n l e) := .inr (.inl ⟨g, round_near h0 hl⟩)
theorem fam_added {n1 n2 : Bool} {a b : Nat} : Fam (fun m => addedV m n1 n2 a b) := by
  by_cases h : (sumV n1 n2 a b).2 ≠ 0
  · have e : (fun m => addedV m n1 n2 a b) = fun m => roundS m (sumV n1 n2 a b).1 (sumV n1 n2 a b).2 false (-5000) := by
      funext m; unfold addedV; rw [if_pos h]
    rw [e]; exact fam_round h (fun h => absurd h (by decide))
  · by_cases h2 : a = 0 ∧ b = 0 ∧ n1 = n2
    · have e : (fun m => addedV m n1 n2 a b) = fun _ => (signN n1, 0) := by funext m; unfold addedV; rw [if_neg h, if_pos h2]
      rw [e]; exact fam_sign0 _
    · refine .inr (.inr (.inr fun j _ => ?_))
      show addedV j n1 n2 a b = _
      unfold addedV; rw [if_neg h, if_neg h2]
theorem fam_add {a b : Nat} (ua : U64 a) (ub : U64 b) : Fam (fun m => addS m a b) := by
  by_cases h1 : kindN a = 3 ∧ kindN b = 3 ∧ a ≠ b
  · have e : (fun m => addS m a b) = fun _ => (9221120237041090560, 16) := by funext m; unfold addS; rw [if_pos h1]
    rw [e]; exact fam_nan
  · by_cases h2 : kindN a = 3
    · have e : (fun m => addS m a b) = fun _ => (a, 0) := by funext m; unfold addS; rw [if_neg h1, if_pos h2]
      rw [e]; exact fam_const ua rfl
    · by_cases h3 : kindN b = 3
      · have e : (fun m => addS m a b) = fun _ => (b, 0) := by funext m; unfold addS; rw [if_neg h1, if_neg h2, if_pos h3]
        rw [e]; exact fam_const ub rfl
      · have e : (fun m => addS m a b) = fun m => addedV m (negU a) (negU b) (val (exN a) (exE a)) (val (exN b) (exE b)) := by funext m; unfold addS; rw [if_neg h1, if_neg h2, if_neg h3]
        rw [e]; exact fam_added
theorem fam_mul {a b : Nat} : Fam (fun m => mulS m a b) := by
  have za := kind_zero (x := a)
  have zb := kind_zero (x := b)
  by_cases h1 : (kindN a = 3 ∧ kindN b = 0) ∨ (kindN a = 0 ∧ kindN b = 3)
  · have e : (fun m => mulS m a b) = fun _ => (9221120237041090560, 16) := by funext m; unfold mulS; rw [if_pos h1]
    rw [e]; exact fam_nan
  · by_cases h2 : kindN a = 3 ∨ kindN b = 3
    · have e : (fun m => mulS m a b) = fun _ => (signN (negU a != negU b) + 9218868437227405312, 0) := by funext m; unfold mulS; rw [if_neg h1, if_pos h2]
      rw [e]; exact fam_sign _ (by decide) rfl
    · by_cases h3 : kindN a = 0 ∨ kindN b = 0
      · have e : (fun m => mulS m a b) = fun _ => (signN (negU a != negU b), 0) := by funext m; unfold mulS; rw [if_neg h1, if_neg h2, if_pos h3]
        rw [e]; exact fam_sign0 _
      · have e : (fun m => mulS m a b) = fun m => roundS m (negU a != negU b) (exN a * exN b) false (exE a + exE b) := by funext m; unfold mulS; rw [if_neg h1, if_neg h2, if_neg h3]
        rw [e]; exact fam_round (by rw [Ne, Nat.mul_eq_zero]; omega) (fun h => absurd h (by decide))
theorem fam_div {a b : Nat} : Fam (fun m => divS m a b) := by
  have za := kind_zero (x := a)
  have zb := kind_zero (x := b)
  by_cases h1 : (kindN a = 3 ∧ kindN b = 3) ∨ (kindN a = 0 ∧ kindN b = 0)
  · have e : (fun m => divS m a b) = fun _ => (9221120237041090560, 16) := by funext m; unfold divS; rw [if_pos h1]
    rw [e]; exact fam_nan
  · by_cases h2 : kindN a = 3
    · have e : (fun m => divS m a b) = fun _ => (signN (negU a != negU b) + 9218868437227405312, 0) := by funext m; unfold divS; rw [if_neg h1, if_pos h2]
      rw [e]; exact fam_sign _ (by decide) rfl
    · by_cases h3 : kindN b = 3 ∨ kindN a = 0
      · have e : (fun m => divS m a b) = fun _ => (signN (negU a != negU b), 0) := by funext m; unfold divS; rw [if_neg h1, if_neg h2, if_pos h3]
        rw [e]; exact fam_sign0 _
      · by_cases h4 : kindN b = 0
        · have e : (fun m => divS m a b) = fun _ => (signN (negU a != negU b) + 9218868437227405312, 8) := by funext m; unfold divS; rw [if_neg h1, if_neg h2, if_neg h3, if_pos h4]
          rw [e]; exact fam_sign _ (by decide) rfl
        · have e : (fun m => divS m a b) = fun m => roundS m (negU a != negU b) (mk2 (exN a * 2 ^ 120 / exN b) (decide (exN a * 2 ^ 120 % exN b = 0))) false (exE a - 120 - exE b - 1) := by funext m; unfold divS; rw [if_neg h1, if_neg h2, if_neg h3, if_neg h4]
          have hq : exN a * 2 ^ 120 / exN b ≠ 0 := by
            have h5 := exN_lt b
            have h6 : exN b ≤ exN a * 2 ^ 120 := Nat.le_trans (by omega : exN b ≤ 2 ^ 120) (Nat.le_mul_of_pos_left _ (by omega))
            have := Nat.div_pos h6 (by omega)
            omega
          rw [e]; exact fam_round (mk2_ne hq) (fun h => absurd h (by decide))
theorem fam_fma {a b c : Nat} (uc : U64 c) : Fam (fun m => fmaS m a b c) := by
  by_cases h1 : (kindN a = 3 ∧ kindN b = 0) ∨ (kindN a = 0 ∧ kindN b = 3)
  · have e : (fun m => fmaS m a b c) = fun _ => (9221120237041090560, 16) := by funext m; unfold fmaS; rw [if_pos h1]
    rw [e]; exact fam_nan
  · by_cases h2 : kindN a = 3 ∨ kindN b = 3
    · have e : (fun m => fmaS m a b c) = fun m => addS m (signN (negU a != negU b) + 9218868437227405312) c := by funext m; unfold fmaS; rw [if_neg h1, if_pos h2]
      have hu : U64 (signN (negU a != negU b) + 9218868437227405312) := by
        have h2 : signN (negU a != negU b) ≤ 9223372036854775808 := by unfold signN; split <;> omega
        unfold U64; omega
      rw [e]; exact fam_add hu uc
    · by_cases h3 : kindN c = 3
      · have e : (fun m => fmaS m a b c) = fun _ => (c, 0) := by funext m; unfold fmaS; rw [if_neg h1, if_neg h2, if_pos h3]
        rw [e]; exact fam_const uc rfl
      · have e : (fun m => fmaS m a b c) = fun m => addedV m (negU a != negU b) (negU c) (val (exN a * exN b) (exE a + exE b)) (val (exN c) (exE c)) := by funext m; unfold fmaS; rw [if_neg h1, if_neg h2, if_neg h3]
        rw [e]; exact fam_added
theorem root_big {V : Nat} (h : 2 ^ 106 ≤ V) : 54 ≤ bl (rootN V) := by
  have h1 := (rootN_is V).2
  refine Nat.lt_of_not_le fun h2 => ?_
  have h3 : rootN V < 2 ^ 53 := bl_le.1 h2
  have h4 := Nat.mul_le_mul (show rootN V + 1 ≤ 2 ^ 53 from h3) (show rootN V + 1 ≤ 2 ^ 53 from h3)
  rw [← Nat.pow_add] at h4
  omega
theorem fam_root {V : Nat} {l : Bool} (h : 2 ^ 106 ≤ V) : Fam (fun m => roundS m false (rootN V) l (-2500)) := by
  have h1 := root_big h
  exact fam_round (bl_pos.1 (by omega)) (fun _ => h1)
theorem val_big {n : Nat} {e : Int} (hn : n ≠ 0) (he : -4894 ≤ e) : 2 ^ 106 ≤ val n e := by
  unfold val
  exact Nat.le_trans (Nat.pow_le_pow_right (by decide) (by omega)) (Nat.le_mul_of_pos_left _ (Nat.pos_of_ne_zero hn))
theorem fam_sqrt {a : Nat} (ua : U64 a) : Fam (fun m => sqrtS m a) := by
  have za := kind_zero (x := a)
  by_cases h1 : kindN a = 0
  · have e : (fun m => sqrtS m a) = fun _ => (a, 0) := by funext m; unfold sqrtS; rw [if_pos h1]
    rw [e]; exact fam_const ua rfl
  · by_cases h2 : negU a = true
    · have e : (fun m => sqrtS m a) = fun _ => (9221120237041090560, 16) := by funext m; unfold sqrtS; rw [if_neg h1, if_pos h2]
      rw [e]; exact fam_nan
    · by_cases h3 : kindN a = 3
      · have e : (fun m => sqrtS m a) = fun _ => (a, 0) := by funext m; unfold sqrtS; rw [if_neg h1, if_neg h2, if_pos h3]
        rw [e]; exact fam_const ua rfl
      · have e : (fun m => sqrtS m a) = fun m => sqrtV m a := by funext m; unfold sqrtS; rw [if_neg h1, if_neg h2, if_neg h3]
        have b1 := exE_bounds a
        rw [e]; exact fam_root (val_big (by omega) (by omega))
theorem fam_rsqrt {a : Nat} : Fam (fun m => rsqrtS m a) := by
  have za := kind_zero (x := a)
  by_cases h1 : kindN a = 0
  · have e : (fun m => rsqrtS m a) = fun _ => (signN (negU a) + 9218868437227405312, 8) := by funext m; unfold rsqrtS; rw [if_pos h1]
    rw [e]; exact fam_sign _ (by decide) rfl
  · by_cases h2 : negU a = true
    · have e : (fun m => rsqrtS m a) = fun _ => (9221120237041090560, 16) := by funext m; unfold rsqrtS; rw [if_neg h1, if_pos h2]
      rw [e]; exact fam_nan
    · by_cases h3 : kindN a = 3
      · have e : (fun m => rsqrtS m a) = fun _ => (0, 0) := by funext m; unfold rsqrtS; rw [if_neg h1, if_neg h2, if_pos h3]
        rw [e]; exact fam_const (by unfold U64; decide) rfl
      · have e : (fun m => rsqrtS m a) = fun m => rsqrtV m a := by funext m; unfold rsqrtS; rw [if_neg h1, if_neg h2, if_neg h3]
        have b1 := exE_bounds a
        have h5 := exN_lt a
        have hV : 2 ^ 106 ≤ 2 ^ (5000 - exE a).toNat / exN a := by
          rw [Nat.le_div_iff_mul_le (by omega)]
          refine Nat.le_trans (Nat.mul_le_mul_left _ (by omega : exN a ≤ 2 ^ 53)) ?_
          rw [← Nat.pow_add]
          exact Nat.pow_le_pow_right (by decide) (by omega)
        rw [e]; exact fam_root hV
theorem fam_cbrt {a : Nat} (ua : U64 a) : Fam (fun m => cbrtS m a) := by
  have za := kind_zero (x := a)
  by_cases h1 : kindN a = 3 ∨ kindN a = 0
  · have e : (fun m => cbrtS m a) = fun _ => (a, 0) := by funext m; unfold cbrtS; rw [if_pos h1]
    rw [e]; exact fam_const ua rfl
  · have e : (fun m => cbrtS m a) = fun m => cbrtV m a := by funext m; unfold cbrtS; rw [if_neg h1]
    have hn0 : exN a * 2 ^ cbK a ≠ 0 := by have := Nat.mul_pos (Nat.pos_of_ne_zero (show exN a ≠ 0 by omega)) (Nat.two_pow_pos (cbK a)); omega
    rw [e]; exact fam_round (mk2_ne (cb_pos (cbN_is _) hn0)) (fun h => absurd h (by decide))
theorem fam_hyp {a b : Nat} : Fam (fun m => hypS m a b) := by
  have za := kind_zero (x := a)
  have zb := kind_zero (x := b)
  by_cases h1 : kindN a = 3 ∨ kindN b = 3
  · have e : (fun m => hypS m a b) = fun _ => (9218868437227405312, 0) := by funext m; unfold hypS; rw [if_pos h1]
    rw [e]; exact fam_const (by unfold U64; decide) rfl
  · by_cases h2 : kindN a = 0 ∧ kindN b = 0
    · have e : (fun m => hypS m a b) = fun _ => (0, 0) := by funext m; unfold hypS; rw [if_neg h1, if_pos h2]
      rw [e]; exact fam_const (by unfold U64; decide) rfl
    · have e : (fun m => hypS m a b) = fun m => hypV m a b := by funext m; unfold hypS; rw [if_neg h1, if_neg h2]
      have b1 := exE_bounds a
      have b2 := exE_bounds b
      have hV : 2 ^ 106 ≤ hypW a b := by
        unfold hypW
        by_cases h3 : exN a = 0
        · have := val_big (n := exN b * exN b) (e := exE b + exE b) (by rw [Ne, Nat.mul_eq_zero]; omega) (by omega); omega
        · have := val_big (n := exN a * exN a) (e := exE a + exE a) (by rw [Ne, Nat.mul_eq_zero]; omega) (by omega); omega
      rw [e]; exact fam_root hV
theorem quiet_u {x : Nat} (h : U64 x) : U64 (quietN x) := by
  unfold quietN U64
  exact Nat.or_lt_two_pow (n := 64) h (by decide)
theorem nanB_u {a b c : Nat} (ua : U64 a) (ub : U64 b) (uc : U64 c) : ∀ n, U64 (nanB a b c n)
  | 0 => by unfold nanB U64; decide
  | n + 1 => by
    unfold nanB
    split
    · exact quiet_u (opnd_u ua ub uc)
    · exact nanB_u ua ub uc n
theorem nanR_u {o a b c n : Nat} (ua : U64 a) (ub : U64 b) (uc : U64 c) : U64 (nanR o a b c n).2.1 ∧ (nanR o a b c n).2.2 % 2 = 0 := by
  unfold nanR
  split
  · exact ⟨by unfold U64; decide, rfl⟩
  · split
    · exact ⟨by unfold U64; decide, rfl⟩
    · split
      · exact ⟨by unfold U64; decide, rfl⟩
      · refine ⟨nanB_u ua ub uc n, ?_⟩
        show nanF a b c n % 2 = 0
        rcases nanF_or a b c n with h | h <;> rw [h]
theorem fam_do {o a b c : Nat} (h1 : 1 ≤ o) (h2 : o ≤ 9) (ua : U64 a) (ub : U64 b) (uc : U64 c) : Fam (fun m => doS o m a b c) := by
  cases hN : nanS a b c (nOps o) with
  | true =>
    obtain ⟨u1, u2⟩ := nanR_u (o := o) (n := nOps o) ua ub uc
    have e : (fun m => doS o m a b c) = fun _ => ((nanR o a b c (nOps o)).2.1, (nanR o a b c (nOps o)).2.2) := by funext m; unfold doS; rw [if_pos hN]
    rw [e]; exact fam_const u1 u2
  | false =>
    have e : (fun m => doS o m a b c) = fun m => opS o m a b c := by funext m; unfold doS; rw [if_neg (by rw [hN]; decide)]
    rw [e]
    rcases (show o = 1 ∨ o = 2 ∨ o = 3 ∨ o = 4 ∨ o = 5 ∨ o = 6 ∨ o = 7 ∨ o = 8 ∨ o = 9 by omega) with rfl | rfl | rfl | rfl | rfl | rfl | rfl | rfl | rfl
    · simp only [opS_1]; exact fam_add ua ub
    · simp only [opS_2]; exact fam_add ua (turn_u ub)
    · simp only [opS_3]; exact fam_mul
    · simp only [opS_4]; exact fam_div
    · simp only [opS_5]; exact fam_fma uc
    · simp only [opS_6]; exact fam_sqrt ua
    · simp only [opS_7]; exact fam_rsqrt
    · simp only [opS_8]; exact fam_cbrt ua
    · simp only [opS_9]; exact fam_hyp
theorem ord_of {ng : Bool} {M : Nat} (h : M < 9223372036854775808) : ordI (signN ng + M) = (if ng then -(M : Int) else M) ∧ U64 (signN ng + M) := by
  have hs : signN true = 9223372036854775808 := rfl
  have hs2 : signN false = 0 := rfl
  cases ng with
  | true =>
    rw [hs]
    refine ⟨?_, by unfold U64; omega⟩
    have hn : negU (9223372036854775808 + M) = true := by unfold negU; exact decide_eq_true (by omega)
    unfold ordI; rw [hn, if_pos rfl, if_pos rfl, show (9223372036854775808 + M) % 9223372036854775808 = M from by omega]
  | false =>
    rw [hs2, Nat.zero_add]
    refine ⟨?_, by unfold U64; omega⟩
    have hn : negU M = false := by unfold negU; exact decide_eq_false (by omega)
    unfold ordI; rw [hn, if_neg (by decide), if_neg (by decide)]
theorem nan_of {ng : Bool} {M : Nat} (h : M ≤ 9218868437227405312) : nanQ (signN ng + M) = false := by
  have hs : signN true = 9223372036854775808 := rfl
  have hs2 : signN false = 0 := rfl
  unfold nanQ
  cases ng
  · rw [hs2]; exact decide_eq_false (by omega)
  · rw [hs]; exact decide_eq_false (by omega)
theorem and_u8 (f : Nat) : bits .and .u8 (f : Int) 1 = ((f % 2 : Nat) : Int) := by
  have h1 : bits .and .u8 (f : Int) 1 = IntKind.u8.wrap ((BitVec.ofInt 8 (f : Int) &&& BitVec.ofInt 8 1).toNat : Int) := rfl
  have h2 : (BitVec.ofInt 8 (f : Int) &&& BitVec.ofInt 8 1).toNat = (BitVec.ofInt 8 (f : Int)).toNat % 2 := by
    rw [BitVec.toNat_and, show (BitVec.ofInt 8 1).toNat = 1 from by decide, Nat.and_one_is_mod]
  rw [h1, h2, IntKind.wrap_u8, BitVec.toNat_ofInt]
  omega
/-- What the law asks of the results of one record. -/
theorem fam_around {R : Nat → Nat × Nat} (h : Fam R) : (∀ j, j < 5 → U64 (R j).1) ∧ ((nanQ (R 0).1 = true ∧ ∀ j, j < 5 → (R j).1 = (R 0).1 ∧ (R j).2 = (R 0).2) ∨ (nanQ (R 0).1 = false ∧ AroundOk (ordI (R 3).1) (ordI (R 4).1) (ordI (R 0).1) (ordI (R 1).1) (ordI (R 2).1) (fun j => (R j).2))) := by
  rcases h with ⟨h1, h2, h3⟩ | ⟨ng, T, X, hT, hN⟩ | ⟨b, f, hb, hf, hn, h3⟩ | h3
  · exact ⟨fun j hj => by rw [h3 j hj]; exact h2, .inl ⟨h1, fun j hj => by rw [h3 j hj]; exact ⟨rfl, rfl⟩⟩⟩
  · obtain ⟨u0, f0, r0, g0, a0, _, _, _⟩ := hN 0
    obtain ⟨u1, f1, r1, g1, a1, _, _, _⟩ := hN 1
    obtain ⟨u2, f2, r2, g2, a2, b2, _, _⟩ := hN 2
    obtain ⟨u3, f3, r3, g3, a3, _, b3, _⟩ := hN 3
    obtain ⟨u4, f4, r4, g4, a4, _, _, b4⟩ := hN 4
    have b2 := b2 rfl
    have b3 := b3 rfl
    have b4 := b4 rfl
    subst b2 b3 b4
    have hle : ∀ u : Bool, T + (if u then 1 else 0) ≤ 9218868437227405312 := fun u => by split <;> omega
    have ho := fun u : Bool => ord_of (ng := ng) (M := T + (if u then 1 else 0)) (by have := hle u; omega)
    refine ⟨fun j hj => ?_, .inr ⟨by rw [r0]; exact nan_of (hle _), ((if X then 1 else 0 : Nat) : Int), ?_⟩⟩
    · rcases (show j = 0 ∨ j = 1 ∨ j = 2 ∨ j = 3 ∨ j = 4 by omega) with rfl | rfl | rfl | rfl | rfl
      · rw [r0]; exact (ho _).2
      · rw [r1]; exact (ho _).2
      · rw [r2]; exact (ho _).2
      · rw [r3]; exact (ho _).2
      · rw [r4]; exact (ho _).2
    · simp only [and_u8]
      rw [r0, r1, r2, r3, r4]
      simp only
      rw [(ho _).1, (ho _).1, (ho _).1, (ho _).1, (ho _).1, g0, g1, g2, g3]
      have w0 : ∀ x : Int, -5 ≤ x → x ≤ 5 → IntKind.i64.wrap x = x := fun x h1 h2 => by rw [IntKind.wrap_i64]; omega
      clear ho hle r0 r1 r2 r3 r4 g0 g1 g2 g3 g4 hN
      cases X with
      | false =>
        have e0 : u0 = false := by cases u0; rfl; exact absurd (a0 rfl) (by decide)
        have e1 : u1 = false := by cases u1; rfl; exact absurd (a1 rfl) (by decide)
        subst e0 e1
        cases ng
        all_goals
          refine ⟨⟨w0 _ ?_ ?_, ?_, ?_⟩, ?_, ?_, ?_, ⟨rfl, rfl, rfl, rfl⟩, ?_, ?_⟩
          all_goals (first | (simp; done) | (simp; omega))
      | true =>
        cases ng <;> cases u0 <;> cases u1
        all_goals
          refine ⟨⟨w0 _ ?_ ?_, ?_, ?_⟩, ?_, ?_, ?_, ⟨rfl, rfl, rfl, rfl⟩, ?_, ?_⟩
          all_goals (first | (simp; done) | (simp; omega))
  · refine ⟨fun j hj => by rw [h3 j hj]; exact hb, .inr ⟨by rw [h3 0 (by decide)]; exact hn, 0, ?_⟩⟩
    simp only [and_u8]
    rw [h3 0 (by decide), h3 1 (by decide), h3 2 (by decide), h3 3 (by decide), h3 4 (by decide)]
    simp only
    rw [hf]
    refine ⟨⟨by rw [Int.sub_self]; rfl, Int.le_refl _, by omega⟩, by simp, by simp, by simp, by simp, by simp, by simp⟩
  · have hz : ∀ g, ordI (signN g) = 0 := fun g => by cases g <;> decide
    refine ⟨fun j hj => by rw [h3 j hj]; show U64 (signN _); unfold U64 signN; split <;> omega, .inr ⟨by rw [h3 0 (by decide)]; decide, 0, ?_⟩⟩
    simp only [and_u8]
    rw [h3 0 (by decide), h3 1 (by decide), h3 2 (by decide), h3 3 (by decide), h3 4 (by decide)]
    simp only [hz]
    exact ⟨⟨rfl, by decide, by decide⟩, by simp, by simp, by simp, by simp, by decide, by decide⟩
end Go.Proofs.YtldmbneckcjonabDoor
namespace Go.Proofs.YtldmbneckcjonabDoor
open Go.RowKit
set_option maxRecDepth 100000 in
set_option maxHeartbeats 4000000 in
theorem lives_walk (s1 s2 s3 s4 f1 f2 f3 f4 : Nat) (D1 : Hid (∀ W, TableAt W → Calls Tryd.prog 9 #[.agg #[.int .u8 1, .int .u8 0, .int .u64 4607182418800017408, .int .u64 4611686018427387904, .int .u64 0]] W (SoftOut s1 f1 false W)))
    (D2 : Hid (∀ W, TableAt W → Calls Tryd.prog 9 #[.agg #[.int .u8 1, .int .u8 0, .int .u64 4607182418800017408, .int .u64 4336966441157787648, .int .u64 0]] W (SoftOut s2 f2 false W)))
    (D3 : Hid (∀ W, TableAt W → Calls Tryd.prog 9 #[.agg #[.int .u8 1, .int .u8 3, .int .u64 4607182418800017408, .int .u64 4336966441157787648, .int .u64 0]] W (SoftOut s3 f3 false W)))
    (D4 : Hid (∀ W, TableAt W → Calls Tryd.prog 9 #[.agg #[.int .u8 3, .int .u8 0, .int .u64 4613937818241073152, .int .u64 4613937818241073152, .int .u64 0]] W (SoftOut s4 f4 false W)))
    (e1 : ((s1 : Int) == 4613937818241073152) = true) (k1 : ((f1 : Int) == 0) = true) (e2 : ((s2 : Int) == 4607182418800017408) = true) (k2 : ((f2 : Int) == 1) = true) (e3 : ((s3 : Int) == 4607182418800017409) = true) (k3 : ((f3 : Int) == 1) = true) (e4 : ((s4 : Int) == 4621256167635550208) = true) (k4 : ((f4 : Int) == 0) = true) (w : World) (hT : Hid (TableAt w)) : Calls Tryd.prog 5 #[] w fun e w' => e = .returned (.bool true) ∧ Below w.heap.size w w' := by
  have hE0 : Env w w.heap.size [] w := Env.nil (Below.refl _ _)
  go_enter Tryd.func5, Tryd.ntmps5
  go_upto_region 1 with (fail)
  go_cut [1] (fun s wx => ∃ g1 B : Nat, s = .pointer (some ⟨g1, 0, none⟩) ∧ Env w B ((g1, 0, .int .u64 s1) :: (g1, 1, .int .u8 f1) :: (g1, 2, .bool false) :: []) wx)
  case first =>
    have hz0 := hE0.size
    go_wp2_with fail
    refine (D1.out _ (hT.out.below (Nat.le_refl _) (Env.below (B := w.heap.size) (C := []) (by repeat' (first | with_reducible assumption | with_reducible refine Env.drew ?_ | with_reducible refine Env.drewN ?_ _ | with_reducible refine Env.alloc ?_ _ | with_reducible refine Env.put ?_ (by omega) _ _))))).mono ?_
    rintro e w1 ⟨rfl, hb1⟩
    have hE1 : Env w w.heap.size ([]) w1 := Env.call (by repeat' (first | with_reducible assumption | with_reducible refine Env.drew ?_ | with_reducible refine Env.drewN ?_ _ | with_reducible refine Env.alloc ?_ _ | with_reducible refine Env.put ?_ (by omega) _ _)) hb1
    have hz1 := hE1.size
    go_wp2_with fail
    go_meet
    refine ⟨_, _, rfl, Env.add3 (B := w.heap.size) (by repeat' (first | with_reducible assumption | with_reducible refine Env.drew ?_ | with_reducible refine Env.drewN ?_ _ | with_reducible refine Env.alloc ?_ _ | with_reducible refine Env.put ?_ (by omega) _ _)) ?_ ?_ ?_⟩ <;> (go_simp; done)
  case rest =>
    obtain ⟨g1, B1, rfl, hE1⟩ := hcut
    go_upto_region 2 with (fail)
    go_cut [2] (fun s wx => ∃ g2 B : Nat, s = .pointer (some ⟨g2, 0, none⟩) ∧ Env w B ((g2, 0, .int .u64 s2) :: (g2, 1, .int .u8 f2) :: (g2, 2, .bool false) :: (g1, 0, .int .u64 s1) :: (g1, 1, .int .u8 f1) :: (g1, 2, .bool false) :: []) wx)
    case first =>
      have hz0 := hE1.size
      go_wp2_with fail
      refine (D2.out _ (hT.out.below (Nat.le_refl _) (Env.below (B := B1) (C := (g1, 0, .int .u64 s1) :: (g1, 1, .int .u8 f1) :: (g1, 2, .bool false) :: []) (by repeat' (first | with_reducible assumption | with_reducible refine Env.drew ?_ | with_reducible refine Env.drewN ?_ _ | with_reducible refine Env.alloc ?_ _ | with_reducible refine Env.put ?_ (by omega) _ _))))).mono ?_
      rintro e w1 ⟨rfl, hb1⟩
      have hE1 : Env w B1 ((g1, 0, .int .u64 s1) :: (g1, 1, .int .u8 f1) :: (g1, 2, .bool false) :: []) w1 := Env.call (by repeat' (first | with_reducible assumption | with_reducible refine Env.drew ?_ | with_reducible refine Env.drewN ?_ _ | with_reducible refine Env.alloc ?_ _ | with_reducible refine Env.put ?_ (by omega) _ _)) hb1
      have hz1 := hE1.size
      go_wp2_with fail
      go_meet
      refine ⟨_, _, rfl, Env.add3 (B := B1) (by repeat' (first | with_reducible assumption | with_reducible refine Env.drew ?_ | with_reducible refine Env.drewN ?_ _ | with_reducible refine Env.alloc ?_ _ | with_reducible refine Env.put ?_ (by omega) _ _)) ?_ ?_ ?_⟩ <;> (go_simp; done)
    case rest =>
      obtain ⟨g2, B2, rfl, hE2⟩ := hcut
      clear hE1
      go_upto_region 3 with (fail)
      go_cut [3] (fun s wx => ∃ g3 B : Nat, s = .pointer (some ⟨g3, 0, none⟩) ∧ Env w B ((g3, 0, .int .u64 s3) :: (g3, 1, .int .u8 f3) :: (g3, 2, .bool false) :: (g2, 0, .int .u64 s2) :: (g2, 1, .int .u8 f2) :: (g2, 2, .bool false) :: (g1, 0, .int .u64 s1) :: (g1, 1, .int .u8 f1) :: (g1, 2, .bool false) :: []) wx)
      case first =>
        have hz0 := hE2.size
        go_wp2_with fail
        refine (D3.out _ (hT.out.below (Nat.le_refl _) (Env.below (B := B2) (C := (g2, 0, .int .u64 s2) :: (g2, 1, .int .u8 f2) :: (g2, 2, .bool false) :: (g1, 0, .int .u64 s1) :: (g1, 1, .int .u8 f1) :: (g1, 2, .bool false) :: []) (by repeat' (first | with_reducible assumption | with_reducible refine Env.drew ?_ | with_reducible refine Env.drewN ?_ _ | with_reducible refine Env.alloc ?_ _ | with_reducible refine Env.put ?_ (by omega) _ _))))).mono ?_
        rintro e w1 ⟨rfl, hb1⟩
        have hE1 : Env w B2 ((g2, 0, .int .u64 s2) :: (g2, 1, .int .u8 f2) :: (g2, 2, .bool false) :: (g1, 0, .int .u64 s1) :: (g1, 1, .int .u8 f1) :: (g1, 2, .bool false) :: []) w1 := Env.call (by repeat' (first | with_reducible assumption | with_reducible refine Env.drew ?_ | with_reducible refine Env.drewN ?_ _ | with_reducible refine Env.alloc ?_ _ | with_reducible refine Env.put ?_ (by omega) _ _)) hb1
        have hz1 := hE1.size
        go_wp2_with fail
        go_meet
        refine ⟨_, _, rfl, Env.add3 (B := B2) (by repeat' (first | with_reducible assumption | with_reducible refine Env.drew ?_ | with_reducible refine Env.drewN ?_ _ | with_reducible refine Env.alloc ?_ _ | with_reducible refine Env.put ?_ (by omega) _ _)) ?_ ?_ ?_⟩ <;> (go_simp; done)
      case rest =>
        obtain ⟨g3, B3, rfl, hE3⟩ := hcut
        clear hE2
        go_upto_region 4 with (fail)
        go_cut [4] (fun s wx => ∃ g4 B : Nat, s = .pointer (some ⟨g4, 0, none⟩) ∧ Env w B ((g4, 0, .int .u64 s4) :: (g4, 1, .int .u8 f4) :: (g4, 2, .bool false) :: (g3, 0, .int .u64 s3) :: (g3, 1, .int .u8 f3) :: (g3, 2, .bool false) :: (g2, 0, .int .u64 s2) :: (g2, 1, .int .u8 f2) :: (g2, 2, .bool false) :: (g1, 0, .int .u64 s1) :: (g1, 1, .int .u8 f1) :: (g1, 2, .bool false) :: []) wx)
        case first =>
          have hz0 := hE3.size
          go_wp2_with fail
          refine (D4.out _ (hT.out.below (Nat.le_refl _) (Env.below (B := B3) (C := (g3, 0, .int .u64 s3) :: (g3, 1, .int .u8 f3) :: (g3, 2, .bool false) :: (g2, 0, .int .u64 s2) :: (g2, 1, .int .u8 f2) :: (g2, 2, .bool false) :: (g1, 0, .int .u64 s1) :: (g1, 1, .int .u8 f1) :: (g1, 2, .bool false) :: []) (by repeat' (first | with_reducible assumption | with_reducible refine Env.drew ?_ | with_reducible refine Env.drewN ?_ _ | with_reducible refine Env.alloc ?_ _ | with_reducible refine Env.put ?_ (by omega) _ _))))).mono ?_
          rintro e w1 ⟨rfl, hb1⟩
          have hE1 : Env w B3 ((g3, 0, .int .u64 s3) :: (g3, 1, .int .u8 f3) :: (g3, 2, .bool false) :: (g2, 0, .int .u64 s2) :: (g2, 1, .int .u8 f2) :: (g2, 2, .bool false) :: (g1, 0, .int .u64 s1) :: (g1, 1, .int .u8 f1) :: (g1, 2, .bool false) :: []) w1 := Env.call (by repeat' (first | with_reducible assumption | with_reducible refine Env.drew ?_ | with_reducible refine Env.drewN ?_ _ | with_reducible refine Env.alloc ?_ _ | with_reducible refine Env.put ?_ (by omega) _ _)) hb1
          have hz1 := hE1.size
          go_wp2_with fail
          go_meet
          refine ⟨_, _, rfl, Env.add3 (B := B3) (by repeat' (first | with_reducible assumption | with_reducible refine Env.drew ?_ | with_reducible refine Env.drewN ?_ _ | with_reducible refine Env.alloc ?_ _ | with_reducible refine Env.put ?_ (by omega) _ _)) ?_ ?_ ?_⟩ <;> (go_simp; done)
        case rest =>
          obtain ⟨g4, B4, rfl, hE4⟩ := hcut
          clear hE3
          have c1_0 := hE4.get (b := g1) (i := 0) (v := .int .u64 s1) (by simp)
          have c1_1 := hE4.get (b := g1) (i := 1) (v := .int .u8 f1) (by simp)
          have c1_2 := hE4.get (b := g1) (i := 2) (v := .bool false) (by simp)
          have c2_0 := hE4.get (b := g2) (i := 0) (v := .int .u64 s2) (by simp)
          have c2_1 := hE4.get (b := g2) (i := 1) (v := .int .u8 f2) (by simp)
          have c2_2 := hE4.get (b := g2) (i := 2) (v := .bool false) (by simp)
          have c3_0 := hE4.get (b := g3) (i := 0) (v := .int .u64 s3) (by simp)
          have c3_1 := hE4.get (b := g3) (i := 1) (v := .int .u8 f3) (by simp)
          have c3_2 := hE4.get (b := g3) (i := 2) (v := .bool false) (by simp)
          have c4_0 := hE4.get (b := g4) (i := 0) (v := .int .u64 s4) (by simp)
          have c4_1 := hE4.get (b := g4) (i := 1) (v := .int .u8 f4) (by simp)
          have c4_2 := hE4.get (b := g4) (i := 2) (v := .bool false) (by simp)
          have hB := hE4.below
          clear hE4 D1 D2 D3 D4
          go_wp2_with fail
          go_ret
          exact ⟨rfl, hB⟩
theorem nanT_no {a b c : Nat} (ka : kindN a < 4) (kb : kindN b < 4) : nanS a b c 2 = false := by
  have e : nanS a b c 2 = ((false || decide (4 ≤ kindN a)) || decide (4 ≤ kindN b)) := rfl
  rw [e, decide_eq_false (by omega), decide_eq_false (by omega)]; rfl
theorem do_1 {m a b : Nat} (hm : m < 5) (ua : U64 a) (ub : U64 b) (ka : kindN a < 4) (kb : kindN b < 4) (W : World) (hT : TableAt W) : Calls Tryd.prog 9 #[REC 1 m a b 0] W (SoftOut (addS m a b).1 (addS m a b).2 false W) :=
  Do_go 1 m a b 0 _ _ (fun args w => Tryd.call33 args w) (by decide) (by decide) (by omega) ua ub (by unfold U64; decide) (nanR_no (nanT_no ka kb)) (fun W => add_any 1 m a b 0 hm ua ub ka kb W) W hT
theorem do_3 {m a b : Nat} (hm : m < 5) (ua : U64 a) (ub : U64 b) (ka : kindN a < 4) (kb : kindN b < 4) (W : World) (hT : TableAt W) : Calls Tryd.prog 9 #[REC 3 m a b 0] W (SoftOut (mulS m a b).1 (mulS m a b).2 false W) :=
  Do_go 3 m a b 0 _ _ (fun args w => Tryd.call35 args w) (by decide) (by decide) (by omega) ua ub (by unfold U64; decide) (nanR_no (nanT_no ka kb)) (fun W => mul_any 3 m a b 0 hm ua ub ka kb W) W hT
theorem lv1 : addS 0 4607182418800017408 4611686018427387904 = (4613937818241073152, 0) := by decide +kernel
theorem lv2 : addS 0 4607182418800017408 4336966441157787648 = (4607182418800017408, 1) := by decide +kernel
theorem lv3 : addS 3 4607182418800017408 4336966441157787648 = (4607182418800017409, 1) := by decide +kernel
theorem lv4 : mulS 0 4613937818241073152 4613937818241073152 = (4621256167635550208, 0) := by decide +kernel
theorem lives_any (w : World) (hT : TableAt w) : Calls Tryd.prog 5 #[] w fun e w' => e = .returned (.bool true) ∧ Below w.heap.size w w' := by
  have u1 : U64 4607182418800017408 := by unfold U64; decide
  have u2 : U64 4611686018427387904 := by unfold U64; decide
  have u3 : U64 4336966441157787648 := by unfold U64; decide
  have u4 : U64 4613937818241073152 := by unfold U64; decide
  have k1 : kindN 4607182418800017408 < 4 := by decide
  have k2 : kindN 4611686018427387904 < 4 := by decide
  have k3 : kindN 4336966441157787648 < 4 := by decide
  have k4 : kindN 4613937818241073152 < 4 := by decide
  exact lives_walk 4613937818241073152 4607182418800017408 4607182418800017409 4621256167635550208 0 1 1 0
    (fun W hT => by have := do_1 (m := 0) (by decide) u1 u2 k1 k2 W hT; rw [lv1] at this; exact this)
    (fun W hT => by have := do_1 (m := 0) (by decide) u1 u3 k1 k3 W hT; rw [lv2] at this; exact this)
    (fun W hT => by have := do_1 (m := 3) (by decide) u1 u3 k1 k3 W hT; rw [lv3] at this; exact this)
    (fun W hT => by have := do_3 (m := 0) (by decide) u4 u4 k4 k4 W hT; rw [lv4] at this; exact this)
    (by decide) (by decide) (by decide) (by decide) (by decide) (by decide) (by decide) (by decide) w hT
end Go.Proofs.YtldmbneckcjonabDoor
namespace Go.Proofs.YtldmbneckcjonabDoor
open Go.RowKit
set_option maxRecDepth 100000 in
set_option maxHeartbeats 400000 in
theorem around_low (op md : Int) (a b c o : Nat) (hm : IntKind.u8.wrap op = o) (ho : wrap64 (o : Int) = o) (h1 : decide ((o : Int) < 1) = true) (w : World) : Calls Tryd.prog 7 #[LREC op md a b c] w fun e w' => e = .returned (.bool true) ∧ Below w.heap.size w w' := by
  go_enter Tryd.func7, Tryd.ntmps7
  go_wp2_with fail
  go_ret
  refine ⟨rfl, ?_⟩
  repeat' (first | with_reducible exact Below.refl _ _ | with_reducible assumption | with_reducible refine Below.drew ?_ | with_reducible refine bdrewN ?_ _ | with_reducible refine Below.alloc ?_ ?_ _ | with_reducible refine Below.setCell ?_ ?_ _ | with_reducible refine Below.trans ?_ (Below.mono (by assumption) ?_) | omega | (simp; done) | (simp; omega))
set_option maxRecDepth 100000 in
set_option maxHeartbeats 400000 in
theorem around_high (op md : Int) (a b c o : Nat) (hm : IntKind.u8.wrap op = o) (ho : wrap64 (o : Int) = o) (h1 : decide ((o : Int) < 1) = false) (h9 : decide ((9 : Int) < o) = true) (w : World) : Calls Tryd.prog 7 #[LREC op md a b c] w fun e w' => e = .returned (.bool true) ∧ Below w.heap.size w w' := by
  go_enter Tryd.func7, Tryd.ntmps7
  go_wp2_with fail
  go_ret
  refine ⟨rfl, ?_⟩
  repeat' (first | with_reducible exact Below.refl _ _ | with_reducible assumption | with_reducible refine Below.drew ?_ | with_reducible refine bdrewN ?_ _ | with_reducible refine Below.alloc ?_ ?_ _ | with_reducible refine Below.setCell ?_ ?_ _ | with_reducible refine Below.trans ?_ (Below.mono (by assumption) ?_) | omega | (simp; done) | (simp; omega))
theorem around_any (op md : Int) (a b c : Nat) (ua : U64 a) (ub : U64 b) (uc : U64 c) (w : World) (hT : TableAt w) : Calls Tryd.prog 7 #[LREC op md a b c] w fun e w' => e = .returned (.bool true) ∧ Below w.heap.size w w' := by
  obtain ⟨o, ho⟩ : ∃ o : Nat, op % 256 = o := ⟨(op % 256).toNat, by omega⟩
  obtain ⟨t, ht⟩ : ∃ t : Nat, md % 256 = t := ⟨(md % 256).toNat, by omega⟩
  have hm : IntKind.u8.wrap op = o := by rw [IntKind.wrap_u8]; exact ho
  have ho2 : wrap64 (o : Int) = o := by unfold wrap64; omega
  by_cases h1 : o < 1
  · exact around_low op md a b c o hm ho2 (decide_eq_true (by omega)) w
  · by_cases h9 : 9 < o
    · exact around_high op md a b c o hm ho2 (decide_eq_false (by omega)) (decide_eq_true (by omega)) w
    · obtain ⟨hu, hc⟩ := fam_around (fam_do (o := o) (by omega) (by omega) ua ub uc)
      refine around_loop op md a b c o t (fun j => (doS o j a b c).1) (fun j => (doS o j a b c).2) (nanQ (doS o 0 a b c).1) (ordI (doS o 3 a b c).1) (ordI (doS o 4 a b c).1) (ordI (doS o 0 a b c).1) (ordI (doS o 1 a b c).1) (ordI (doS o 2 a b c).1) hm ho2 (decide_eq_false (by omega)) (decide_eq_false (by omega))
        (fun W => given_any op md o t a b c ho ht W) (fun j hj W hT => Do_any (by omega) (by omega) hj ua ub uc W hT) (fun W => nan_any _ W)
        (fun W => order_any _ (hu 3 (by decide)) W) (fun W => order_any _ (hu 4 (by decide)) W) (fun W => order_any _ (hu 0 (by decide)) W) (fun W => order_any _ (hu 1 (by decide)) W) (fun W => order_any _ (hu 2 (by decide)) W) ?_ w hT
      rcases hc with ⟨h1, h2⟩ | ⟨h1, h2⟩
      · exact .inl ⟨h1, h2⟩
      · exact .inr ⟨h1, h2⟩
end Go.Proofs.YtldmbneckcjonabDoor
namespace Go.Proofs.YtldmbneckcjonabDoor
open Go.RowKit
set_option maxRecDepth 100000 in
set_option maxHeartbeats 4000000 in
theorem rootf_walk (s1 s2 s3 s4 s5 s6 f1 f2 f3 f4 f5 f6 : Nat) (D1 : Hid (∀ W, TableAt W → Calls Tryd.prog 9 #[.agg #[.int .u8 4, .int .u8 0, .int .u64 4607182418800017408, .int .u64 4616189618054758400, .int .u64 0]] W (SoftOut s1 f1 false W)))
    (D2 : Hid (∀ W, TableAt W → Calls Tryd.prog 9 #[.agg #[.int .u8 5, .int .u8 0, .int .u64 4611686018427387904, .int .u64 4613937818241073152, .int .u64 4607182418800017408]] W (SoftOut s2 f2 false W)))
    (D3 : Hid (∀ W, TableAt W → Calls Tryd.prog 9 #[.agg #[.int .u8 6, .int .u8 0, .int .u64 4616189618054758400, .int .u64 0, .int .u64 0]] W (SoftOut s3 f3 false W)))
    (D4 : Hid (∀ W, TableAt W → Calls Tryd.prog 9 #[.agg #[.int .u8 7, .int .u8 0, .int .u64 4625196817309499392, .int .u64 0, .int .u64 0]] W (SoftOut s4 f4 false W)))
    (D5 : Hid (∀ W, TableAt W → Calls Tryd.prog 9 #[.agg #[.int .u8 8, .int .u8 0, .int .u64 4628293042053316608, .int .u64 0, .int .u64 0]] W (SoftOut s5 f5 false W)))
    (D6 : Hid (∀ W, TableAt W → Calls Tryd.prog 9 #[.agg #[.int .u8 9, .int .u8 0, .int .u64 4613937818241073152, .int .u64 4616189618054758400, .int .u64 0]] W (SoftOut s6 f6 false W)))
    (e1 : ((s1 : Int) == 4598175219545276416) = true) (k1 : ((f1 : Int) == 0) = true) (e2 : ((s2 : Int) == 4619567317775286272) = true) (k2 : ((f2 : Int) == 0) = true) (e3 : ((s3 : Int) == 4611686018427387904) = true) (k3 : ((f3 : Int) == 0) = true) (e4 : ((s4 : Int) == 4598175219545276416) = true) (k4 : ((f4 : Int) == 0) = true) (e5 : ((s5 : Int) == 4613937818241073152) = true) (k5 : ((f5 : Int) == 0) = true) (e6 : ((s6 : Int) == 4617315517961601024) = true) (k6 : ((f6 : Int) == 0) = true) (w : World) (hT : Hid (TableAt w)) : Calls Tryd.prog 6 #[] w fun e w' => e = .returned (.bool true) ∧ Below w.heap.size w w' := by
  have hE0 : Env w w.heap.size [] w := Env.nil (Below.refl _ _)
  go_enter Tryd.func6, Tryd.ntmps6
  go_upto_region 1 with (fail)
  go_cut [1] (fun s wx => ∃ g1 B : Nat, s = .pointer (some ⟨g1, 0, none⟩) ∧ Env w B ((g1, 0, .int .u64 s1) :: (g1, 1, .int .u8 f1) :: (g1, 2, .bool false) :: []) wx)
  case first =>
    have hz0 := hE0.size
    go_wp2_with fail
    refine (D1.out _ (hT.out.below (Nat.le_refl _) (Env.below (B := w.heap.size) (C := []) (by repeat' (first | with_reducible assumption | with_reducible refine Env.drew ?_ | with_reducible refine Env.drewN ?_ _ | with_reducible refine Env.alloc ?_ _ | with_reducible refine Env.put ?_ (by omega) _ _))))).mono ?_
    rintro e w1 ⟨rfl, hb1⟩
    have hE1 : Env w w.heap.size ([]) w1 := Env.call (by repeat' (first | with_reducible assumption | with_reducible refine Env.drew ?_ | with_reducible refine Env.drewN ?_ _ | with_reducible refine Env.alloc ?_ _ | with_reducible refine Env.put ?_ (by omega) _ _)) hb1
    have hz1 := hE1.size
    go_wp2_with fail
    go_meet
    refine ⟨_, _, rfl, Env.add3 (B := w.heap.size) (by repeat' (first | with_reducible assumption | with_reducible refine Env.drew ?_ | with_reducible refine Env.drewN ?_ _ | with_reducible refine Env.alloc ?_ _ | with_reducible refine Env.put ?_ (by omega) _ _)) ?_ ?_ ?_⟩ <;> (go_simp; done)
  case rest =>
    obtain ⟨g1, B1, rfl, hE1⟩ := hcut
    go_upto_region 2 with (fail)
    go_cut [2] (fun s wx => ∃ g2 B : Nat, s = .pointer (some ⟨g2, 0, none⟩) ∧ Env w B ((g2, 0, .int .u64 s2) :: (g2, 1, .int .u8 f2) :: (g2, 2, .bool false) :: (g1, 0, .int .u64 s1) :: (g1, 1, .int .u8 f1) :: (g1, 2, .bool false) :: []) wx)
    case first =>
      have hz0 := hE1.size
      go_wp2_with fail
      refine (D2.out _ (hT.out.below (Nat.le_refl _) (Env.below (B := B1) (C := (g1, 0, .int .u64 s1) :: (g1, 1, .int .u8 f1) :: (g1, 2, .bool false) :: []) (by repeat' (first | with_reducible assumption | with_reducible refine Env.drew ?_ | with_reducible refine Env.drewN ?_ _ | with_reducible refine Env.alloc ?_ _ | with_reducible refine Env.put ?_ (by omega) _ _))))).mono ?_
      rintro e w1 ⟨rfl, hb1⟩
      have hE1 : Env w B1 ((g1, 0, .int .u64 s1) :: (g1, 1, .int .u8 f1) :: (g1, 2, .bool false) :: []) w1 := Env.call (by repeat' (first | with_reducible assumption | with_reducible refine Env.drew ?_ | with_reducible refine Env.drewN ?_ _ | with_reducible refine Env.alloc ?_ _ | with_reducible refine Env.put ?_ (by omega) _ _)) hb1
      have hz1 := hE1.size
      go_wp2_with fail
      go_meet
      refine ⟨_, _, rfl, Env.add3 (B := B1) (by repeat' (first | with_reducible assumption | with_reducible refine Env.drew ?_ | with_reducible refine Env.drewN ?_ _ | with_reducible refine Env.alloc ?_ _ | with_reducible refine Env.put ?_ (by omega) _ _)) ?_ ?_ ?_⟩ <;> (go_simp; done)
    case rest =>
      obtain ⟨g2, B2, rfl, hE2⟩ := hcut
      clear hE1
      go_upto_region 3 with (fail)
      go_cut [3] (fun s wx => ∃ g3 B : Nat, s = .pointer (some ⟨g3, 0, none⟩) ∧ Env w B ((g3, 0, .int .u64 s3) :: (g3, 1, .int .u8 f3) :: (g3, 2, .bool false) :: (g2, 0, .int .u64 s2) :: (g2, 1, .int .u8 f2) :: (g2, 2, .bool false) :: (g1, 0, .int .u64 s1) :: (g1, 1, .int .u8 f1) :: (g1, 2, .bool false) :: []) wx)
      case first =>
        have hz0 := hE2.size
        go_wp2_with fail
        refine (D3.out _ (hT.out.below (Nat.le_refl _) (Env.below (B := B2) (C := (g2, 0, .int .u64 s2) :: (g2, 1, .int .u8 f2) :: (g2, 2, .bool false) :: (g1, 0, .int .u64 s1) :: (g1, 1, .int .u8 f1) :: (g1, 2, .bool false) :: []) (by repeat' (first | with_reducible assumption | with_reducible refine Env.drew ?_ | with_reducible refine Env.drewN ?_ _ | with_reducible refine Env.alloc ?_ _ | with_reducible refine Env.put ?_ (by omega) _ _))))).mono ?_
        rintro e w1 ⟨rfl, hb1⟩
        have hE1 : Env w B2 ((g2, 0, .int .u64 s2) :: (g2, 1, .int .u8 f2) :: (g2, 2, .bool false) :: (g1, 0, .int .u64 s1) :: (g1, 1, .int .u8 f1) :: (g1, 2, .bool false) :: []) w1 := Env.call (by repeat' (first | with_reducible assumption | with_reducible refine Env.drew ?_ | with_reducible refine Env.drewN ?_ _ | with_reducible refine Env.alloc ?_ _ | with_reducible refine Env.put ?_ (by omega) _ _)) hb1
        have hz1 := hE1.size
        go_wp2_with fail
        go_meet
        refine ⟨_, _, rfl, Env.add3 (B := B2) (by repeat' (first | with_reducible assumption | with_reducible refine Env.drew ?_ | with_reducible refine Env.drewN ?_ _ | with_reducible refine Env.alloc ?_ _ | with_reducible refine Env.put ?_ (by omega) _ _)) ?_ ?_ ?_⟩ <;> (go_simp; done)
      case rest =>
        obtain ⟨g3, B3, rfl, hE3⟩ := hcut
        clear hE2
        go_upto_region 4 with (fail)
        go_cut [4] (fun s wx => ∃ g4 B : Nat, s = .pointer (some ⟨g4, 0, none⟩) ∧ Env w B ((g4, 0, .int .u64 s4) :: (g4, 1, .int .u8 f4) :: (g4, 2, .bool false) :: (g3, 0, .int .u64 s3) :: (g3, 1, .int .u8 f3) :: (g3, 2, .bool false) :: (g2, 0, .int .u64 s2) :: (g2, 1, .int .u8 f2) :: (g2, 2, .bool false) :: (g1, 0, .int .u64 s1) :: (g1, 1, .int .u8 f1) :: (g1, 2, .bool false) :: []) wx)
        case first =>
          have hz0 := hE3.size
          go_wp2_with fail
          refine (D4.out _ (hT.out.below (Nat.le_refl _) (Env.below (B := B3) (C := (g3, 0, .int .u64 s3) :: (g3, 1, .int .u8 f3) :: (g3, 2, .bool false) :: (g2, 0, .int .u64 s2) :: (g2, 1, .int .u8 f2) :: (g2, 2, .bool false) :: (g1, 0, .int .u64 s1) :: (g1, 1, .int .u8 f1) :: (g1, 2, .bool false) :: []) (by repeat' (first | with_reducible assumption | with_reducible refine Env.drew ?_ | with_reducible refine Env.drewN ?_ _ | with_reducible refine Env.alloc ?_ _ | with_reducible refine Env.put ?_ (by omega) _ _))))).mono ?_
          rintro e w1 ⟨rfl, hb1⟩
          have hE1 : Env w B3 ((g3, 0, .int .u64 s3) :: (g3, 1, .int .u8 f3) :: (g3, 2, .bool false) :: (g2, 0, .int .u64 s2) :: (g2, 1, .int .u8 f2) :: (g2, 2, .bool false) :: (g1, 0, .int .u64 s1) :: (g1, 1, .int .u8 f1) :: (g1, 2, .bool false) :: []) w1 := Env.call (by repeat' (first | with_reducible assumption | with_reducible refine Env.drew ?_ | with_reducible refine Env.drewN ?_ _ | with_reducible refine Env.alloc ?_ _ | with_reducible refine Env.put ?_ (by omega) _ _)) hb1
          have hz1 := hE1.size
          go_wp2_with fail
          go_meet
          refine ⟨_, _, rfl, Env.add3 (B := B3) (by repeat' (first | with_reducible assumption | with_reducible refine Env.drew ?_ | with_reducible refine Env.drewN ?_ _ | with_reducible refine Env.alloc ?_ _ | with_reducible refine Env.put ?_ (by omega) _ _)) ?_ ?_ ?_⟩ <;> (go_simp; done)
        case rest =>
          obtain ⟨g4, B4, rfl, hE4⟩ := hcut
          clear hE3
          go_upto_region 5 with (fail)
          go_cut [5] (fun s wx => ∃ g5 B : Nat, s = .pointer (some ⟨g5, 0, none⟩) ∧ Env w B ((g5, 0, .int .u64 s5) :: (g5, 1, .int .u8 f5) :: (g5, 2, .bool false) :: (g4, 0, .int .u64 s4) :: (g4, 1, .int .u8 f4) :: (g4, 2, .bool false) :: (g3, 0, .int .u64 s3) :: (g3, 1, .int .u8 f3) :: (g3, 2, .bool false) :: (g2, 0, .int .u64 s2) :: (g2, 1, .int .u8 f2) :: (g2, 2, .bool false) :: (g1, 0, .int .u64 s1) :: (g1, 1, .int .u8 f1) :: (g1, 2, .bool false) :: []) wx)
          case first =>
            have hz0 := hE4.size
            go_wp2_with fail
            refine (D5.out _ (hT.out.below (Nat.le_refl _) (Env.below (B := B4) (C := (g4, 0, .int .u64 s4) :: (g4, 1, .int .u8 f4) :: (g4, 2, .bool false) :: (g3, 0, .int .u64 s3) :: (g3, 1, .int .u8 f3) :: (g3, 2, .bool false) :: (g2, 0, .int .u64 s2) :: (g2, 1, .int .u8 f2) :: (g2, 2, .bool false) :: (g1, 0, .int .u64 s1) :: (g1, 1, .int .u8 f1) :: (g1, 2, .bool false) :: []) (by repeat' (first | with_reducible assumption | with_reducible refine Env.drew ?_ | with_reducible refine Env.drewN ?_ _ | with_reducible refine Env.alloc ?_ _ | with_reducible refine Env.put ?_ (by omega) _ _))))).mono ?_
            rintro e w1 ⟨rfl, hb1⟩
            have hE1 : Env w B4 ((g4, 0, .int .u64 s4) :: (g4, 1, .int .u8 f4) :: (g4, 2, .bool false) :: (g3, 0, .int .u64 s3) :: (g3, 1, .int .u8 f3) :: (g3, 2, .bool false) :: (g2, 0, .int .u64 s2) :: (g2, 1, .int .u8 f2) :: (g2, 2, .bool false) :: (g1, 0, .int .u64 s1) :: (g1, 1, .int .u8 f1) :: (g1, 2, .bool false) :: []) w1 := Env.call (by repeat' (first | with_reducible assumption | with_reducible refine Env.drew ?_ | with_reducible refine Env.drewN ?_ _ | with_reducible refine Env.alloc ?_ _ | with_reducible refine Env.put ?_ (by omega) _ _)) hb1
            have hz1 := hE1.size
            go_wp2_with fail
            go_meet
            refine ⟨_, _, rfl, Env.add3 (B := B4) (by repeat' (first | with_reducible assumption | with_reducible refine Env.drew ?_ | with_reducible refine Env.drewN ?_ _ | with_reducible refine Env.alloc ?_ _ | with_reducible refine Env.put ?_ (by omega) _ _)) ?_ ?_ ?_⟩ <;> (go_simp; done)
          case rest =>
            obtain ⟨g5, B5, rfl, hE5⟩ := hcut
            clear hE4
            go_upto_region 6 with (fail)
            go_cut [6] (fun s wx => ∃ g6 B : Nat, s = .pointer (some ⟨g6, 0, none⟩) ∧ Env w B ((g6, 0, .int .u64 s6) :: (g6, 1, .int .u8 f6) :: (g6, 2, .bool false) :: (g5, 0, .int .u64 s5) :: (g5, 1, .int .u8 f5) :: (g5, 2, .bool false) :: (g4, 0, .int .u64 s4) :: (g4, 1, .int .u8 f4) :: (g4, 2, .bool false) :: (g3, 0, .int .u64 s3) :: (g3, 1, .int .u8 f3) :: (g3, 2, .bool false) :: (g2, 0, .int .u64 s2) :: (g2, 1, .int .u8 f2) :: (g2, 2, .bool false) :: (g1, 0, .int .u64 s1) :: (g1, 1, .int .u8 f1) :: (g1, 2, .bool false) :: []) wx)
            case first =>
              have hz0 := hE5.size
              go_wp2_with fail
              refine (D6.out _ (hT.out.below (Nat.le_refl _) (Env.below (B := B5) (C := (g5, 0, .int .u64 s5) :: (g5, 1, .int .u8 f5) :: (g5, 2, .bool false) :: (g4, 0, .int .u64 s4) :: (g4, 1, .int .u8 f4) :: (g4, 2, .bool false) :: (g3, 0, .int .u64 s3) :: (g3, 1, .int .u8 f3) :: (g3, 2, .bool false) :: (g2, 0, .int .u64 s2) :: (g2, 1, .int .u8 f2) :: (g2, 2, .bool false) :: (g1, 0, .int .u64 s1) :: (g1, 1, .int .u8 f1) :: (g1, 2, .bool false) :: []) (by repeat' (first | with_reducible assumption | with_reducible refine Env.drew ?_ | with_reducible refine Env.drewN ?_ _ | with_reducible refine Env.alloc ?_ _ | with_reducible refine Env.put ?_ (by omega) _ _))))).mono ?_
              rintro e w1 ⟨rfl, hb1⟩
              have hE1 : Env w B5 ((g5, 0, .int .u64 s5) :: (g5, 1, .int .u8 f5) :: (g5, 2, .bool false) :: (g4, 0, .int .u64 s4) :: (g4, 1, .int .u8 f4) :: (g4, 2, .bool false) :: (g3, 0, .int .u64 s3) :: (g3, 1, .int .u8 f3) :: (g3, 2, .bool false) :: (g2, 0, .int .u64 s2) :: (g2, 1, .int .u8 f2) :: (g2, 2, .bool false) :: (g1, 0, .int .u64 s1) :: (g1, 1, .int .u8 f1) :: (g1, 2, .bool false) :: []) w1 := Env.call (by repeat' (first | with_reducible assumption | with_reducible refine Env.drew ?_ | with_reducible refine Env.drewN ?_ _ | with_reducible refine Env.alloc ?_ _ | with_reducible refine Env.put ?_ (by omega) _ _)) hb1
              have hz1 := hE1.size
              go_wp2_with fail
              go_meet
              refine ⟨_, _, rfl, Env.add3 (B := B5) (by repeat' (first | with_reducible assumption | with_reducible refine Env.drew ?_ | with_reducible refine Env.drewN ?_ _ | with_reducible refine Env.alloc ?_ _ | with_reducible refine Env.put ?_ (by omega) _ _)) ?_ ?_ ?_⟩ <;> (go_simp; done)
            case rest =>
              obtain ⟨g6, B6, rfl, hE6⟩ := hcut
              clear hE5
              have c1_0 := hE6.get (b := g1) (i := 0) (v := .int .u64 s1) (by simp)
              have c1_1 := hE6.get (b := g1) (i := 1) (v := .int .u8 f1) (by simp)
              have c1_2 := hE6.get (b := g1) (i := 2) (v := .bool false) (by simp)
              have c2_0 := hE6.get (b := g2) (i := 0) (v := .int .u64 s2) (by simp)
              have c2_1 := hE6.get (b := g2) (i := 1) (v := .int .u8 f2) (by simp)
              have c2_2 := hE6.get (b := g2) (i := 2) (v := .bool false) (by simp)
              have c3_0 := hE6.get (b := g3) (i := 0) (v := .int .u64 s3) (by simp)
              have c3_1 := hE6.get (b := g3) (i := 1) (v := .int .u8 f3) (by simp)
              have c3_2 := hE6.get (b := g3) (i := 2) (v := .bool false) (by simp)
              have c4_0 := hE6.get (b := g4) (i := 0) (v := .int .u64 s4) (by simp)
              have c4_1 := hE6.get (b := g4) (i := 1) (v := .int .u8 f4) (by simp)
              have c4_2 := hE6.get (b := g4) (i := 2) (v := .bool false) (by simp)
              have c5_0 := hE6.get (b := g5) (i := 0) (v := .int .u64 s5) (by simp)
              have c5_1 := hE6.get (b := g5) (i := 1) (v := .int .u8 f5) (by simp)
              have c5_2 := hE6.get (b := g5) (i := 2) (v := .bool false) (by simp)
              have c6_0 := hE6.get (b := g6) (i := 0) (v := .int .u64 s6) (by simp)
              have c6_1 := hE6.get (b := g6) (i := 1) (v := .int .u8 f6) (by simp)
              have c6_2 := hE6.get (b := g6) (i := 2) (v := .bool false) (by simp)
              have hB := hE6.below
              clear hE6 D1 D2 D3 D4 D5 D6
              go_wp2_with fail
              go_ret
              exact ⟨rfl, hB⟩
end Go.Proofs.YtldmbneckcjonabDoor
namespace Go.Proofs.YtldmbneckcjonabDoor
open Go.RowKit
theorem do_val {o m a b c x f : Nat} (h1 : 1 ≤ o) (h2 : o ≤ 9) (hm : m < 5) (ua : U64 a) (ub : U64 b) (uc : U64 c) (hN : nanS a b c (nOps o) = false) (hv : opS o m a b c = (x, f)) (W : World) (hT : TableAt W) : Calls Tryd.prog 9 #[REC o m a b c] W (SoftOut x f false W) := by
  have h := Do_any h1 h2 hm ua ub uc W hT
  have e : doS o m a b c = (x, f) := by unfold doS; rw [if_neg (by rw [hN]; decide)]; exact hv
  rw [e] at h
  exact h
theorem rv_div : divS 0 4607182418800017408 4616189618054758400 = (4598175219545276416, 0) := by decide +kernel
theorem rv_fma : fmaS 0 4611686018427387904 4613937818241073152 4607182418800017408 = (4619567317775286272, 0) := by decide +kernel
theorem rv_sqrt : sqrtS 0 4616189618054758400 = (4611686018427387904, 0) := by
  have e : sqrtS 0 4616189618054758400 = sqrtV 0 4616189618054758400 := by unfold sqrtS; rw [if_neg (by decide), if_neg (by decide), if_neg (by decide)]
  rw [e, ← sqrt_soft (r := 2 ^ 126) (k := 200) (h := -125) (by decide +kernel) (by decide +kernel) (by decide) (by decide) (by unfold IsRoot; decide +kernel)]
  decide +kernel
theorem rv_rsqrt : rsqrtS 0 4625196817309499392 = (4598175219545276416, 0) := by
  have e : rsqrtS 0 4625196817309499392 = rsqrtV 0 4625196817309499392 := by unfold rsqrtS; rw [if_neg (by decide), if_neg (by decide), if_neg (by decide)]
  rw [e, ← rsqrt_soft (r := 2 ^ 100) (k := 0) (h := -102) (by decide +kernel) (by decide +kernel) (by decide) (by unfold IsRoot; decide +kernel)]
  decide +kernel
theorem rv_cbrt : cbrtS 0 4628293042053316608 = (4613937818241073152, 0) := by
  have e : cbrtS 0 4628293042053316608 = cbrtV 0 4628293042053316608 := by unfold cbrtS; rw [if_neg (by decide)]
  rw [e, ← cbrt_soft (r := 3 * 2 ^ 59) (k := 129) (h := -59) (by decide +kernel) (by decide +kernel) (by decide) (by unfold IsCb; decide +kernel)]
  decide +kernel
theorem rv_hyp : hypS 0 4613937818241073152 4616189618054758400 = (4617315517961601024, 0) := by
  have e : hypS 0 4613937818241073152 4616189618054758400 = hypV 0 4613937818241073152 4616189618054758400 := by unfold hypS; rw [if_neg (by decide), if_neg (by decide)]
  have hr : rootN (hypW 4613937818241073152 4616189618054758400) = 5 * 2 ^ 2500 := root_uniq (rootN_is _) (by unfold IsRoot; decide +kernel)
  rw [e]; unfold hypV; rw [hr]
  decide +kernel
theorem rootf_any (w : World) (hT : TableAt w) : Calls Tryd.prog 6 #[] w fun e w' => e = .returned (.bool true) ∧ Below w.heap.size w w' := by
  have u0 : U64 0 := by unfold U64; decide
  have u1 : U64 4607182418800017408 := by unfold U64; decide
  have u2 : U64 4616189618054758400 := by unfold U64; decide
  have u3 : U64 4611686018427387904 := by unfold U64; decide
  have u4 : U64 4613937818241073152 := by unfold U64; decide
  have u5 : U64 4625196817309499392 := by unfold U64; decide
  have u6 : U64 4628293042053316608 := by unfold U64; decide
  exact rootf_walk 4598175219545276416 4619567317775286272 4611686018427387904 4598175219545276416 4613937818241073152 4617315517961601024 0 0 0 0 0 0
    (fun W hT => do_val (o := 4) (by decide) (by decide) (by decide) u1 u2 u0 (by decide) ((opS_4 _ _ _ _).trans rv_div) W hT)
    (fun W hT => do_val (o := 5) (by decide) (by decide) (by decide) u3 u4 u1 (by decide) ((opS_5 _ _ _ _).trans rv_fma) W hT)
    (fun W hT => do_val (o := 6) (by decide) (by decide) (by decide) u2 u0 u0 (by decide) ((opS_6 _ _ _ _).trans rv_sqrt) W hT)
    (fun W hT => do_val (o := 7) (by decide) (by decide) (by decide) u5 u0 u0 (by decide) ((opS_7 _ _ _ _).trans rv_rsqrt) W hT)
    (fun W hT => do_val (o := 8) (by decide) (by decide) (by decide) u6 u0 u0 (by decide) ((opS_8 _ _ _ _).trans rv_cbrt) W hT)
    (fun W hT => do_val (o := 9) (by decide) (by decide) (by decide) u4 u2 u0 (by decide) ((opS_9 _ _ _ _).trans rv_hyp) W hT)
    (by decide) (by decide) (by decide) (by decide) (by decide) (by decide) (by decide) (by decide) (by decide) (by decide) (by decide) (by decide) w hT
end Go.Proofs.YtldmbneckcjonabDoor
