/- softfloatlaw.of: the steps with a code from lo to hi. -/
import Derived.Test.YtldmbneckcjonaaDoorLaw
namespace Go.Proofs.YtldmbneckcjonaaDoor
open Go.RowKit
/-- The i-th step's cells. -/
def IsSl (L : Value) : Prop := ∃ A n c, L = .slice A n c
def StepsIn (w : World) (A : Option Addr) (len : Nat) : Prop := ∀ i, i < len → ∃ a, A = some a ∧ a.block < w.heap.size ∧ ∃ Q : Value → Prop, (∀ L, Q L → IsSl L) ∧ StepAt w Q (a.add (i * 8))
theorem block_add' (a : Addr) (n : Nat) : (a.add n).block = a.block := by unfold Addr.add; split <;> rfl
theorem StepAt.below {w w' : World} {Q : Value → Prop} {p : Addr} {B : Nat} (h : StepAt w Q p) (hB : w.heap.size ≤ B) (hb : Below B w w') (hp : p.block < w.heap.size) : StepAt w' Q p := by
  obtain ⟨kd, av, op, md, x, y, z, L, h0, h1, h2, h3, h4, h5, h6, h7, r⟩ := h
  have k : ∀ (n : Nat) (v : Value), w.cell? (p.add n) = some v → w'.cell? (p.add n) = some v := fun n v hc => by rw [hb.cell (by rw [block_add']; omega)]; exact hc
  exact ⟨kd, av, op, md, x, y, z, L, by rw [hb.cell (by omega)]; exact h0, k 1 _ h1, k 2 _ h2, k 3 _ h3, k 4 _ h4, k 5 _ h5, k 6 _ h6, k 7 _ h7, r⟩
theorem add_at (p : Addr) {n : Nat} (hn : n ≠ 0) : p.add n = ⟨p.block, p.off + n, none⟩ := by unfold Addr.add; rw [if_neg hn]
theorem mod256 (x : Int) : ∃ o : Nat, x % 256 = o ∧ o < 256 := ⟨(x % 256).toNat, by omega, by omega⟩
theorem wrap_small {o : Nat} (h : o < 256) : wrap64 (o : Int) = o := by unfold wrap64; omega
theorem stepsIn_below {w w' : World} {A : Option Addr} {len : Nat} (h : StepsIn w A len) (hb : Below w.heap.size w w') : StepsIn w' A len := fun i hi => by
  obtain ⟨a, e, hblk, Q, hQ, hS⟩ := h i hi
  exact ⟨a, e, Nat.lt_of_lt_of_le hblk hb.size, Q, hQ, hS.below (Nat.le_refl _) hb (by rw [block_add']; exact hblk)⟩
attribute [local go_sem] few_yes few_no
set_option maxRecDepth 100000 in
set_option maxHeartbeats 2000000 in
theorem of_any (A : Option Addr) (len cap lo hi : Nat) (hl : len ≤ maxLen) (w : World) (hT : TableAt w) (hst : StepsIn w A len)
    (hG : ∀ o m a b c : Nat, o < 256 → m < 256 → lo ≤ o → o ≤ hi → U64 a → U64 b → U64 c → Agree o m a b c) :
    Calls Tryd.prog 14 #[.slice A len cap, .int .i64 lo, .int .i64 hi] w fun e w' => e = .returned (.bool true) ∧ Below w.heap.size w w' := by
  unfold maxLen at hl
  replace hT := Lib.hid hT
  replace hst := Lib.hid hst
  replace hG := Lib.hid hG
  go_enter Tryd.func14, Tryd.ntmps14
  go_wp2
  go_loopw [6, 7, 8, 9, 10] (fun _ i _ _ _ wr => ∃ k : Nat, k ≤ len ∧ i = .int .i64 k ∧ Below w.heap.size w wr) (fun _ i _ _ _ _ => len - (intOf i).toNat)
  case atStart => exact ⟨0, Nat.zero_le _, rfl, Below.refl _ _⟩
  case round =>
    obtain ⟨k, hk, rfl, hB⟩ := hrel
    by_cases hlt : k < len
    · rcases few_or k with h60 | h60
      · obtain ⟨a, rfl, hblk, Q, hQ, hS⟩ := hst.out k hlt
        obtain ⟨kd, av, op, md, x, y, z, L, h0, h1, h2, h3, h4, h5, h6, h7, w0, w1, w2, w3, ux, uy, uz, hL⟩ := hS.below (Nat.le_refl _) hB (by rw [block_add']; exact hblk)
        have hT' := Lib.hid (hT.out.below (Nat.le_refl _) hB)
        obtain ⟨o, ho, ho2⟩ := mod256 op
        obtain ⟨m, hm, hm2⟩ := mod256 md
        have ho8 : IntKind.u8.wrap op = o := by rw [IntKind.wrap_u8]; exact ho
        have rel : ∀ wr', Below w.heap.size w wr' → ∃ k' : Nat, k' ≤ len ∧ Value.int .i64 ((k : Int) + 1) = .int .i64 k' ∧ Below w.heap.size w wr' := fun wr' h => ⟨k + 1, hlt, rfl, h⟩
        replace rel := Lib.hid rel
        have D := fun hAg => Lib.hid (fun W hT => done_any op md o m x y z ho hm hAg W hT)
        have hAg := fun h1 h2 => hG.out o m x y z ho2 hm2 h1 h2 ux uy uz
        replace D := Lib.hid D
        replace hAg := Lib.hid hAg
        have hBs := hB.size
        have hkp : (k : Int) < len := by omega
        obtain ⟨LA, Ln, Lc, rfl⟩ := hQ _ hL
        rw [add_at _ (by decide)] at h1 h2 h3 h4 h5 h6 h7
        clear hL hQ hS w0 w1 w2 w3 ux uy uz ho hm hG hst hm2
        by_cases hkd : kd = 2
        · subst hkd
          by_cases hlo : lo ≤ o
          · by_cases hhi : o ≤ hi
            · have D1 := D.out (hAg.out hlo hhi)
              clear hAg D
              go_wp2_with fail
              refine (D1.out _ (hT'.out.below (Nat.le_refl _) ?_)).mono ?_
              · repeat' (first | with_reducible exact Below.refl _ _ | with_reducible assumption | with_reducible refine Below.drew ?_ | with_reducible refine bdrewN ?_ _ | with_reducible refine Below.alloc ?_ ?_ _ | with_reducible refine Below.setCell ?_ ?_ _ | with_reducible refine Below.trans ?_ (Below.mono (by assumption) ?_) | omega | (simp; done) | (simp; omega))
              rintro e w1 ⟨rfl, hb1⟩
              go_wp2_with fail
              go_roundw
              case rel => exact rel.out _ (by repeat' (first | with_reducible exact Below.refl _ _ | with_reducible assumption | with_reducible refine Below.drew ?_ | with_reducible refine bdrewN ?_ _ | with_reducible refine Below.alloc ?_ ?_ _ | with_reducible refine Below.setCell ?_ ?_ _ | with_reducible refine Below.trans ?_ (Below.mono (by assumption) ?_) | omega | (simp; done) | (simp; omega)))
              case measure => simp [intOf]; omega
            · clear hAg D hT'
              go_wp2_with fail
              go_roundw
              case rel => exact rel.out _ (by repeat' (first | with_reducible exact Below.refl _ _ | with_reducible assumption | with_reducible refine Below.drew ?_ | with_reducible refine bdrewN ?_ _ | with_reducible refine Below.alloc ?_ ?_ _ | with_reducible refine Below.setCell ?_ ?_ _ | with_reducible refine Below.trans ?_ (Below.mono (by assumption) ?_) | omega | (simp; done) | (simp; omega)))
              case measure => simp [intOf]; omega
          · clear hAg D hT'
            go_wp2_with fail
            go_roundw
            case rel => exact rel.out _ (by repeat' (first | with_reducible exact Below.refl _ _ | with_reducible assumption | with_reducible refine Below.drew ?_ | with_reducible refine bdrewN ?_ _ | with_reducible refine Below.alloc ?_ ?_ _ | with_reducible refine Below.setCell ?_ ?_ _ | with_reducible refine Below.trans ?_ (Below.mono (by assumption) ?_) | omega | (simp; done) | (simp; omega)))
            case measure => simp [intOf]; omega
        · have c0 : (kd == 2) = false := by rw [beq_eq_false_iff_ne]; exact hkd
          clear hAg D hT'
          go_wp2_with fail
          go_roundw
          case rel => exact rel.out _ (by repeat' (first | with_reducible exact Below.refl _ _ | with_reducible assumption | with_reducible refine Below.drew ?_ | with_reducible refine bdrewN ?_ _ | with_reducible refine Below.alloc ?_ ?_ _ | with_reducible refine Below.setCell ?_ ?_ _ | with_reducible refine Below.trans ?_ (Below.mono (by assumption) ?_) | omega | (simp; done) | (simp; omega)))
          case measure => simp [intOf]; omega
      · go_wp2
        go_ret
        exact ⟨rfl, hB⟩
    · go_wp2
      go_ret
      exact ⟨rfl, hB⟩
theorem readsLL_slice {H : Type} {enc : TypeId × Value → H} {w : World} {base : Nat} {sp : Nat → Bool} {hd : Bool} {L : Value} (h : ReadsLL enc w base sp hd L) : IsSl L := by
  obtain ⟨n, y, h⟩ := h
  rcases Go.Deep.open_slice Tryd.underlying29 h with ⟨h0, _⟩ | ⟨a, len, cap, m, n, D, Pl, hcs, _⟩
  · exact ⟨none, 0, 0, by simpa using h0⟩
  · exact ⟨some a, len, cap, by simpa using hcs⟩
theorem stepsIn_of {H : Type} {enc : TypeId × Value → H} {W : World} {base : Nat} {sp : Nat → Bool} {hd : Bool} {A : Option Addr} {len : Nat} (h : ∀ i, i < len → ∃ a, A = some a ∧ a.block < W.heap.size ∧ StepAt W (ReadsLL enc W base sp hd) (a.add (i * 8))) : StepsIn W A len := fun i hi => by
  obtain ⟨a, e, hb, hS⟩ := h i hi
  exact ⟨a, e, hb, _, fun _ h => readsLL_slice h, hS⟩
end Go.Proofs.YtldmbneckcjonaaDoor
