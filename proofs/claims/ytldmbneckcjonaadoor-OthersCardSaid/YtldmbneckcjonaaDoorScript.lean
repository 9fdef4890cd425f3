/- The argument of every law, a slice of steps, opened to its cells. The steps may be any that can be read. -/
import Derived.Test.YtldmbneckcjonaaDoorChecked
import Derived.Test.YtldmbneckcjonaaDoorArith
import Derived.ProofKit
import Derived.Deep.Slices
import Derived.Deep.Fields
namespace Go.Proofs.YtldmbneckcjonaaDoor
open Go.ChangeShapes Go.WideShapes Go.Deep
/-- At p begins a step: what its eight cells hold; what is known of its list, as Q. -/
def StepAt (w : World) (Q : Value → Prop) (p : Addr) : Prop :=
  ∃ (kd av op md : Int) (x y z : Nat) (L : Value), w.cell? p = some (.int .i64 kd) ∧ w.cell? (p.add 1) = some (.int .i64 av) ∧ w.cell? (p.add 2) = some (.int .i64 op) ∧ w.cell? (p.add 3) = some (.int .i64 md) ∧
    w.cell? (p.add 4) = some (.int .u64 x) ∧ w.cell? (p.add 5) = some (.int .u64 y) ∧ w.cell? (p.add 6) = some (.int .u64 z) ∧ w.cell? (p.add 7) = some L ∧
    (Lit.int .i64 kd).wf = true ∧ (Lit.int .i64 av).wf = true ∧ (Lit.int .i64 op).wf = true ∧ (Lit.int .i64 md).wf = true ∧ U64 x ∧ U64 y ∧ U64 z ∧ Q L
theorem nat_of_u64 {n : Int} (h : (Lit.int .u64 n).wf = true) : ∃ x : Nat, n = x ∧ U64 x := by
  simp [Lit.wf, IntKind.min, IntKind.max, IntKind.signed, IntKind.bits] at h
  refine ⟨n.toNat, by omega, ?_⟩
  unfold U64; omega
theorem cellsOp : Tryd.prog.cellsOf 31 = 8 := by kernel_rfl
theorem cellsRec : Tryd.prog.cellsOf 28 = 5 := by kernel_rfl
theorem cellsInt : Tryd.prog.cellsOf 3 = 1 := by kernel_rfl
theorem cellsU64 : Tryd.prog.cellsOf 26 = 1 := by kernel_rfl
theorem cellsLL : Tryd.prog.cellsOf 29 = 1 := by kernel_rfl
section
variable {H : Type} {enc : TypeId × Value → H} {w : World} {base : Nat} {spare : Nat → Bool} {held : Bool}
/-- A list of lists that can be read. -/
def ReadsLL (enc : TypeId × Value → H) (w : World) (base : Nat) (spare : Nat → Bool) (held : Bool) (L : Value) : Prop := ∃ n y, DataW.trod enc Tryd.prog w base spare held n 29 [L] = some y
set_option maxRecDepth 100000 in
theorem open_script {fuel : Nat} {cs : List Value} {x : DataW H × List MemPlace} (h : DataW.trod enc Tryd.prog w base spare held fuel 22 cs = some x) :
    cs = [.slice none 0 0] ∨ ∃ (a : Addr) (len cap : Nat), cs = [.slice (some a) len cap] ∧ len ≤ cap ∧ cap ≤ maxLen ∧ ∀ i, i < len → StepAt w (ReadsLL enc w base spare held) (a.add (i * 8)) := by
  rcases open_slice Tryd.underlying22 h with ⟨h0, _⟩ | ⟨a, len, cap, m, n, D, Pl, hcs, _, hl, hm, hmm, _, hi⟩
  · exact .inl h0
  refine .inr ⟨a, len, cap, hcs, hl, hm, fun i hil => ?_⟩
  have him : i < m := by rw [hmm]; split <;> omega
  obtain ⟨cs', hc, ht⟩ := hi i him
  rw [cellsOp] at hc
  obtain ⟨_, hcl, hat⟩ := World.cells?_some hc
  rw [← cellsOp] at hcl
  obtain ⟨ys, n', _, _, _, hyl, hf⟩ := DataW.trod_struct Tryd.underlying31 ht
  rw [cellsOp] at hcl
  match cs', hcl with
  | [c0, c1, c2, c3, c4, c5, c6, c7], _ =>
    match ys, hyl with
    | [y0, y1, y2, y3], _ =>
      have f0 := hf 0 { name := "Kind", type := 3, offset := 0, embedded := false, tag := "", pkgPath := "", byteOffset := 0 } rfl
      have f1 := hf 1 { name := "A", type := 3, offset := 1, embedded := false, tag := "", pkgPath := "", byteOffset := 8 } rfl
      have f2 := hf 2 { name := "R", type := 28, offset := 2, embedded := false, tag := "", pkgPath := "", byteOffset := 16 } rfl
      have f3 := hf 3 { name := "L", type := 29, offset := 7, embedded := false, tag := "", pkgPath := "", byteOffset := 56 } rfl
      simp only [cellsInt, cellsRec, cellsLL, List.drop_zero, List.drop_succ_cons, List.take_succ_cons, List.take_zero, List.getElem?_cons_zero, List.getElem?_cons_succ] at f0 f1 f2 f3
      obtain ⟨zs, n2, _, _, _, hzl, hg⟩ := DataW.trod_struct Tryd.underlying28 f2
      match zs, hzl with
      | [z0, z1, z2, z3, z4], _ =>
        have g0 := hg 0 { name := "Op", type := 3, offset := 0, embedded := false, tag := "", pkgPath := "", byteOffset := 0 } rfl
        have g1 := hg 1 { name := "Mode", type := 3, offset := 1, embedded := false, tag := "", pkgPath := "", byteOffset := 8 } rfl
        have g2 := hg 2 { name := "A", type := 26, offset := 2, embedded := false, tag := "", pkgPath := "", byteOffset := 16 } rfl
        have g3 := hg 3 { name := "B", type := 26, offset := 3, embedded := false, tag := "", pkgPath := "", byteOffset := 24 } rfl
        have g4 := hg 4 { name := "C", type := 26, offset := 4, embedded := false, tag := "", pkgPath := "", byteOffset := 32 } rfl
        simp only [cellsInt, cellsU64, List.drop_zero, List.drop_succ_cons, List.take_succ_cons, List.take_zero, List.getElem?_cons_zero, List.getElem?_cons_succ] at g0 g1 g2 g3 g4
        obtain ⟨kd, e0, _, w0⟩ := DataW.trod_int Tryd.underlying3 f0
        obtain ⟨av, e1, _, w1⟩ := DataW.trod_int Tryd.underlying3 f1
        obtain ⟨op, e2, _, w2⟩ := DataW.trod_int Tryd.underlying3 g0
        obtain ⟨md, e3, _, w3⟩ := DataW.trod_int Tryd.underlying3 g1
        obtain ⟨x, e4, _, w4⟩ := DataW.trod_int Tryd.underlying26 g2
        obtain ⟨y, e5, _, w5⟩ := DataW.trod_int Tryd.underlying26 g3
        obtain ⟨z, e6, _, w6⟩ := DataW.trod_int Tryd.underlying26 g4
        simp only [List.cons.injEq, and_true] at e0 e1 e2 e3 e4 e5 e6
        subst e0 e1 e2 e3 e4 e5 e6
        obtain ⟨x, rfl, hx⟩ := nat_of_u64 w4
        obtain ⟨y, rfl, hy⟩ := nat_of_u64 w5
        obtain ⟨z, rfl, hz⟩ := nat_of_u64 w6
        refine ⟨kd, av, op, md, x, y, z, c7, ?_, hat 1 (by omega), hat 2 (by omega), hat 3 (by omega), hat 4 (by omega), hat 5 (by omega), hat 6 (by omega), hat 7 (by omega), w0, w1, w2, w3, hx, hy, hz, ⟨_, _, f3⟩⟩
        have := hat 0 (by omega)
        rwa [show (a.add (i * 8)).add 0 = a.add (i * 8) from rfl] at this
end
end Go.Proofs.YtldmbneckcjonaaDoor
