/- math/bits.Add64 and Sub64 as laws of the call, and what they compute. Words and carries must be words and carries (IsW, IsC). -/
import Derived.Test.YtldmbneckcjonaaDoorNum
import Derived.Test.YtldmbneckcjonaaDoorChecked
import Derived.Shelf.Spec.BitsCarry
namespace Go.Proofs.YtldmbneckcjonaaDoor
open Go.RowKit
theorem bcell0 {W w1 : World} (hb : Below W.heap.size W w1) : (∀ b o, b < W.heap.size → w1.cell? ⟨b, o, none⟩ = W.cell? ⟨b, o, none⟩) ∧ (∀ b o, b < W.heap.size → w1.frozen? ⟨b, o, none⟩ = W.frozen? ⟨b, o, none⟩) :=
  ⟨fun b o h => hb.cell (p := ⟨b, o, none⟩) h, fun b o h => hb.frozen (p := ⟨b, o, none⟩) h⟩
/-- A word; a carry. -/
def IsW (x : Int) : Prop := 0 ≤ x ∧ x < 18446744073709551616
def IsC (c : Int) : Prop := c = 0 ∨ c = 1
@[irreducible] def adS (x y c : Int) : Int := (x + y + c) % 18446744073709551616
@[irreducible] def adC (x y c : Int) : Int := if 18446744073709551616 ≤ x + y + c then 1 else 0
@[irreducible] def sbD (x y b : Int) : Int := (x + 18446744073709551616 - y - b) % 18446744073709551616
@[irreducible] def sbB (x y b : Int) : Int := if x < y + b then 1 else 0
theorem isW_of {x : Nat} (h : U64 x) : IsW x := by have := h.out; exact ⟨by omega, by omega⟩
theorem isW_wd (i n : Nat) : IsW (wd i n) := isW_of (wd_u64 i n)
theorem isW_zero : IsW 0 := by unfold IsW; omega
theorem isW_one : IsW 1 := by unfold IsW; omega
theorem isC_zero : IsC 0 := .inl rfl
theorem isW_adS (x y c : Int) : IsW (adS x y c) := by unfold IsW adS; omega
theorem isC_adC (x y c : Int) : IsC (adC x y c) := by unfold IsC adC; split <;> simp
theorem isW_sbD (x y b : Int) : IsW (sbD x y b) := by unfold IsW sbD; omega
theorem isC_sbB (x y b : Int) : IsC (sbB x y b) := by unfold IsC sbB; split <;> simp
theorem call_Add64 {x y c : Int} (hx : IsW x) (hy : IsW y) (hc : IsC c) (w : World) :
    (callFunc 164 #[.int .u64 x, .int .u64 y, .int .u64 c]).run Tryd.prog w = .ok (.value (.tuple #[.int .u64 (adS x y c), .int .u64 (adC x y c)])) w := by
  rw [run_callFunc_extern Tryd.func164 (by kernel_rfl) (by kernel_rfl) (by kernel_rfl) (e := add64Entry) (by kernel_rfl)]
  obtain ⟨x0, x1⟩ := hx
  obtain ⟨y0, y1⟩ := hy
  rw [run_add64 x y c x0 y0 (by rcases hc with h | h <;> omega) (by rcases hc with h | h <;> omega)]
  simp only [Result.andThen]
  have e1 : (x + y + c) / 18446744073709551616 = adC x y c := by unfold adC; split <;> (rcases hc with h | h <;> omega)
  have e2 : (x + y + c) % 18446744073709551616 = adS x y c := by unfold adS; rfl
  rw [e1, e2]
theorem call_Sub64 {x y b : Int} (hx : IsW x) (hy : IsW y) (hb : IsC b) (w : World) :
    (callFunc 166 #[.int .u64 x, .int .u64 y, .int .u64 b]).run Tryd.prog w = .ok (.value (.tuple #[.int .u64 (sbD x y b), .int .u64 (sbB x y b)])) w := by
  rw [run_callFunc_extern Tryd.func166 (by kernel_rfl) (by kernel_rfl) (by kernel_rfl) (e := sub64Entry) (by kernel_rfl)]
  obtain ⟨x0, x1⟩ := hx
  obtain ⟨y0, y1⟩ := hy
  obtain ⟨X, rfl⟩ := Int.eq_ofNat_of_zero_le x0
  obtain ⟨Y, rfl⟩ := Int.eq_ofNat_of_zero_le y0
  obtain ⟨B, rfl⟩ : ∃ B : Nat, b = B := ⟨b.toNat, by rcases hb with h | h <;> subst h <;> rfl⟩
  have hB : B ≤ 1 := by rcases hb with h | h <;> omega
  rw [run_sub64 X Y B hB]
  simp only [Result.andThen]
  have e1 : ((if X < Y + B then 1 else 0 : Nat) : Int) = sbB X Y B := by unfold sbB; split <;> split <;> omega
  have e2 : (((X + 18446744073709551616 - Y - B) % 18446744073709551616 : Nat) : Int) = sbD X Y B := by unfold sbD; omega
  rw [e1, e2]
theorem sb_spec {x y b : Int} (hx : IsW x) (hy : IsW y) (hb : IsC b) : sbD x y b = x - y - b + 18446744073709551616 * sbB x y b := by
  obtain ⟨x0, x1⟩ := hx
  obtain ⟨y0, y1⟩ := hy
  unfold sbD sbB; split <;> (rcases hb with h | h <;> omega)
theorem ad_spec {x y c : Int} (hx : IsW x) (hy : IsW y) (hc : IsC c) : adS x y c = x + y + c - 18446744073709551616 * adC x y c := by
  obtain ⟨x0, x1⟩ := hx
  obtain ⟨y0, y1⟩ := hy
  unfold adS adC; split <;> (rcases hc with h | h <;> omega)
/-- Four words, as integers, that make n are n's. -/
theorem wordsI {n : Nat} {a b c d : Int} (ha : IsW a) (hb : IsW b) (hc : IsW c) (hd : IsW d)
    (h : a + 18446744073709551616 * b + 340282366920938463463374607431768211456 * c + 6277101735386680763835789423207666416102355444464034512896 * d = n) : W4 n = .agg #[.int .u64 a, .int .u64 b, .int .u64 c, .int .u64 d] := by
  obtain ⟨a0, a1⟩ := ha
  obtain ⟨b0, b1⟩ := hb
  obtain ⟨c0, c1⟩ := hc
  obtain ⟨d0, d1⟩ := hd
  obtain ⟨A, rfl⟩ := Int.eq_ofNat_of_zero_le a0
  obtain ⟨B, rfl⟩ := Int.eq_ofNat_of_zero_le b0
  obtain ⟨C, rfl⟩ := Int.eq_ofNat_of_zero_le c0
  obtain ⟨D, rfl⟩ := Int.eq_ofNat_of_zero_le d0
  exact words_eq (show A < 18446744073709551616 by omega) (show B < 18446744073709551616 by omega) (show C < 18446744073709551616 by omega) (show D < 18446744073709551616 by omega) (by unfold of4; omega)
theorem of4I {n : Nat} (h : U256 n) : (wd 0 n : Int) + 18446744073709551616 * wd 1 n + 340282366920938463463374607431768211456 * wd 2 n + 6277101735386680763835789423207666416102355444464034512896 * wd 3 n = n := by
  have := of4_wd h; unfold of4 at this; omega
/-- The difference of two numbers, in four words. -/
@[irreducible] def subN (a b : Nat) : Nat := (a + 2 ^ 256 - b) % 2 ^ 256
theorem subN_le {a b : Nat} (ha : U256 a) (h : b ≤ a) : subN a b = a - b := by have := ha.out; unfold subN; omega
theorem subN_u256 (a b : Nat) : U256 (subN a b) := by unfold subN U256; omega
theorem sub_math {a b : Nat} (ha : U256 a) (hb : U256 b) :
    W4 (subN a b) = .agg #[.int .u64 (sbD (wd 0 a) (wd 0 b) 0), .int .u64 (sbD (wd 1 a) (wd 1 b) (sbB (wd 0 a) (wd 0 b) 0)), .int .u64 (sbD (wd 2 a) (wd 2 b) (sbB (wd 1 a) (wd 1 b) (sbB (wd 0 a) (wd 0 b) 0))),
      .int .u64 (sbD (wd 3 a) (wd 3 b) (sbB (wd 2 a) (wd 2 b) (sbB (wd 1 a) (wd 1 b) (sbB (wd 0 a) (wd 0 b) 0))))] ∧
    (sbB (wd 3 a) (wd 3 b) (sbB (wd 2 a) (wd 2 b) (sbB (wd 1 a) (wd 1 b) (sbB (wd 0 a) (wd 0 b) 0))) == 1) = decide (a < b) := by
  have ea := of4I ha
  have eb := of4I hb
  have la := ha.out
  have lb := hb.out
  have c0 := isC_sbB (wd 0 a) (wd 0 b) 0
  have s0 := sb_spec (isW_wd 0 a) (isW_wd 0 b) isC_zero
  have c1 := isC_sbB (wd 1 a) (wd 1 b) (sbB (wd 0 a) (wd 0 b) 0)
  have s1 := sb_spec (isW_wd 1 a) (isW_wd 1 b) c0
  have c2 := isC_sbB (wd 2 a) (wd 2 b) (sbB (wd 1 a) (wd 1 b) (sbB (wd 0 a) (wd 0 b) 0))
  have s2 := sb_spec (isW_wd 2 a) (isW_wd 2 b) c1
  have c3 := isC_sbB (wd 3 a) (wd 3 b) (sbB (wd 2 a) (wd 2 b) (sbB (wd 1 a) (wd 1 b) (sbB (wd 0 a) (wd 0 b) 0)))
  have s3 := sb_spec (isW_wd 3 a) (isW_wd 3 b) c2
  have w0 := isW_sbD (wd 0 a) (wd 0 b) 0
  have w1 := isW_sbD (wd 1 a) (wd 1 b) (sbB (wd 0 a) (wd 0 b) 0)
  have w2 := isW_sbD (wd 2 a) (wd 2 b) (sbB (wd 1 a) (wd 1 b) (sbB (wd 0 a) (wd 0 b) 0))
  have w3 := isW_sbD (wd 3 a) (wd 3 b) (sbB (wd 2 a) (wd 2 b) (sbB (wd 1 a) (wd 1 b) (sbB (wd 0 a) (wd 0 b) 0)))
  refine ⟨wordsI w0 w1 w2 w3 ?_, ?_⟩
  · unfold subN; unfold IsW at w0 w1 w2 w3; unfold IsC at c3
    omega
  · unfold IsW at w0 w1 w2 w3
    rcases c3 with h | h <;> rw [h] at s3 ⊢
    · rw [decide_eq_false (by omega)]; rfl
    · rw [decide_eq_true (by omega)]; rfl
theorem add_math {a b : Nat} (ha : U256 a) (hb : U256 b) (h : U256 (a + b)) :
    W4 (a + b) = .agg #[.int .u64 (adS (wd 0 a) (wd 0 b) 0), .int .u64 (adS (wd 1 a) (wd 1 b) (adC (wd 0 a) (wd 0 b) 0)), .int .u64 (adS (wd 2 a) (wd 2 b) (adC (wd 1 a) (wd 1 b) (adC (wd 0 a) (wd 0 b) 0))),
      .int .u64 (adS (wd 3 a) (wd 3 b) (adC (wd 2 a) (wd 2 b) (adC (wd 1 a) (wd 1 b) (adC (wd 0 a) (wd 0 b) 0))))] := by
  have ea := of4I ha
  have eb := of4I hb
  have la := h.out
  have c0 := isC_adC (wd 0 a) (wd 0 b) 0
  have s0 := ad_spec (isW_wd 0 a) (isW_wd 0 b) isC_zero
  have c1 := isC_adC (wd 1 a) (wd 1 b) (adC (wd 0 a) (wd 0 b) 0)
  have s1 := ad_spec (isW_wd 1 a) (isW_wd 1 b) c0
  have c2 := isC_adC (wd 2 a) (wd 2 b) (adC (wd 1 a) (wd 1 b) (adC (wd 0 a) (wd 0 b) 0))
  have s2 := ad_spec (isW_wd 2 a) (isW_wd 2 b) c1
  have c3 := isC_adC (wd 3 a) (wd 3 b) (adC (wd 2 a) (wd 2 b) (adC (wd 1 a) (wd 1 b) (adC (wd 0 a) (wd 0 b) 0)))
  have s3 := ad_spec (isW_wd 3 a) (isW_wd 3 b) c2
  have w0 := isW_adS (wd 0 a) (wd 0 b) 0
  have w1 := isW_adS (wd 1 a) (wd 1 b) (adC (wd 0 a) (wd 0 b) 0)
  have w2 := isW_adS (wd 2 a) (wd 2 b) (adC (wd 1 a) (wd 1 b) (adC (wd 0 a) (wd 0 b) 0))
  have w3 := isW_adS (wd 3 a) (wd 3 b) (adC (wd 2 a) (wd 2 b) (adC (wd 1 a) (wd 1 b) (adC (wd 0 a) (wd 0 b) 0)))
  refine wordsI w0 w1 w2 w3 ?_
  unfold IsW at w0 w1 w2 w3; unfold IsC at c3
  omega
end Go.Proofs.YtldmbneckcjonaaDoor
