/- Several texts in one: The argument of every law, a slice of steps, opened to its cells. The steps may be any that can be read. · The steps of a script, as cells. · softfloatlaw.given. -/
import Derived.ProofKit
import Derived.Deep.Slices
import Derived.Deep.Fields
import Derived.Test.YtldmbneckcjonabDoorChecked
import Derived.Test.YtldmbneckcjonabDoorGA
import Derived.Test.YtldmbneckcjonabDoorGN
set_option linter.unusedVariables false
set_option linter.unusedSimpArgs false
namespace Go.Proofs.YtldmbneckcjonabDoor
open Go.ChangeShapes Go.WideShapes Go.Deep
/-- At p begins a step: what its eight cells hold; what is known of its list, as Q. -/
def StepAt (w : World) (Q : Value → Prop) (p : Addr) : Prop :=
  ∃ (kd av op md : Int) (x y z : Nat) (L : Value), w.cell? p = some (.int .i64 kd) ∧ w.cell? (p.add 1) = some (.int .i64 av) ∧ w.cell? (p.add 2) = some (.int .i64 op) ∧ w.cell? (p.add 3) = some (.int .i64 md) ∧
    w.cell? (p.add 4) = some (.int .u64 x) ∧ w.cell? (p.add 5) = some (.int .u64 y) ∧ w.cell? (p.add 6) = some (.int .u64 z) ∧ w.cell? (p.add 7) = some L ∧
    (Lit.int .i64 kd).wf = true ∧ (Lit.int .i64 av).wf = true ∧ (Lit.int .i64 op).wf = true ∧ (Lit.int .i64 md).wf = true ∧ U64 x ∧ U64 y ∧ U64 z ∧ Q L
theorem nat_of_u64 {n : Int} (h : (Lit.int .u64 n).wf = true) : ∃ x : Nat, n = x ∧ U64 x := by
  simp [Lit.wf, IntKind.min, IntKind.max, IntKind.signed, IntKind.bits] at h
  refine ⟨n.toNat, by omega, ?_⟩
  unfold U64; omega
theorem cellsOp : Tryd.prog.cellsOf 30 = 8 := by kernel_rfl
theorem cellsRec : Tryd.prog.cellsOf 27 = 5 := by kernel_rfl
theorem cellsInt : Tryd.prog.cellsOf 3 = 1 := by kernel_rfl
theorem cellsU64 : Tryd.prog.cellsOf 25 = 1 := by kernel_rfl
theorem cellsLL : Tryd.prog.cellsOf 28 = 1 := by kernel_rfl
section
variable {H : Type} {enc : TypeId × Value → H} {w : World} {base : Nat} {spare : Nat → Bool} {held : Bool}
/-- A list of lists that can be read. -/
def ReadsLL (enc : TypeId × Value → H) (w : World) (base : Nat) (spare : Nat → Bool) (held : Bool) (L : Value) : Prop := ∃ n y, DataW.trod enc Tryd.prog w base spare held n 28 [L] = some y
set_option maxRecDepth 100000 in
theorem open_script {fuel : Nat} {cs : List Value} {x : DataW H × List MemPlace} (h : DataW.trod enc Tryd.prog w base spare held fuel 22 cs = some x) :
    cs = [.slice none 0 0] ∨ ∃ (a : Addr) (len cap : Nat), cs = [.slice (some a) len cap] ∧ len ≤ cap ∧ cap ≤ maxLen ∧ ∀ i, i < len → StepAt w (ReadsLL enc w base spare held) (a.add (i * 8)) := by
  rcases open_slice Tryd.underlying22 h with ⟨h0, _⟩ | ⟨a, len, cap, m, n, D, Pl, hcs, _, hl, hm, hmm, _, hi⟩
  · exact .inl h0
  refine .inr ⟨a, len, cap, hcs, hl, hm, fun i hil => ?_⟩
  have him : i < m := by rw [hmm]; split <;> omega
  obtain ⟨cs', hc, ht⟩ := hi i him
  rw [cellsOp] at hc
  obtain ⟨_, hcl, hat⟩ := World.cells?_some hc
  rw [← cellsOp] at hcl
  obtain ⟨ys, n', _, _, _, hyl, hf⟩ := DataW.trod_struct Tryd.underlying30 ht
  rw [cellsOp] at hcl
  match cs', hcl with
  | [c0, c1, c2, c3, c4, c5, c6, c7], _ =>
    match ys, hyl with
    | [y0, y1, y2, y3], _ =>
      have f0 := hf 0 { name := "Kind", type := 3, offset := 0, embedded := false, tag := "", pkgPath := "", byteOffset := 0 } rfl
      have f1 := hf 1 { name := "A", type := 3, offset := 1, embedded := false, tag := "", pkgPath := "", byteOffset := 8 } rfl
      have f2 := hf 2 { name := "R", type := 27, offset := 2, embedded := false, tag := "", pkgPath := "", byteOffset := 16 } rfl
      have f3 := hf 3 { name := "L", type := 28, offset := 7, embedded := false, tag := "", pkgPath := "", byteOffset := 56 } rfl
      simp only [cellsInt, cellsRec, cellsLL, List.drop_zero, List.drop_succ_cons, List.take_succ_cons, List.take_zero, List.getElem?_cons_zero, List.getElem?_cons_succ] at f0 f1 f2 f3
      obtain ⟨zs, n2, _, _, _, hzl, hg⟩ := DataW.trod_struct Tryd.underlying27 f2
      match zs, hzl with
      | [z0, z1, z2, z3, z4], _ =>
        have g0 := hg 0 { name := "Op", type := 3, offset := 0, embedded := false, tag := "", pkgPath := "", byteOffset := 0 } rfl
        have g1 := hg 1 { name := "Mode", type := 3, offset := 1, embedded := false, tag := "", pkgPath := "", byteOffset := 8 } rfl
        have g2 := hg 2 { name := "A", type := 25, offset := 2, embedded := false, tag := "", pkgPath := "", byteOffset := 16 } rfl
        have g3 := hg 3 { name := "B", type := 25, offset := 3, embedded := false, tag := "", pkgPath := "", byteOffset := 24 } rfl
        have g4 := hg 4 { name := "C", type := 25, offset := 4, embedded := false, tag := "", pkgPath := "", byteOffset := 32 } rfl
        simp only [cellsInt, cellsU64, List.drop_zero, List.drop_succ_cons, List.take_succ_cons, List.take_zero, List.getElem?_cons_zero, List.getElem?_cons_succ] at g0 g1 g2 g3 g4
        obtain ⟨kd, e0, _, w0⟩ := DataW.trod_int Tryd.underlying3 f0
        obtain ⟨av, e1, _, w1⟩ := DataW.trod_int Tryd.underlying3 f1
        obtain ⟨op, e2, _, w2⟩ := DataW.trod_int Tryd.underlying3 g0
        obtain ⟨md, e3, _, w3⟩ := DataW.trod_int Tryd.underlying3 g1
        obtain ⟨x, e4, _, w4⟩ := DataW.trod_int Tryd.underlying25 g2
        obtain ⟨y, e5, _, w5⟩ := DataW.trod_int Tryd.underlying25 g3
        obtain ⟨z, e6, _, w6⟩ := DataW.trod_int Tryd.underlying25 g4
        simp only [List.cons.injEq, and_true] at e0 e1 e2 e3 e4 e5 e6
        subst e0 e1 e2 e3 e4 e5 e6
        obtain ⟨x, rfl, hx⟩ := nat_of_u64 w4
        obtain ⟨y, rfl, hy⟩ := nat_of_u64 w5
        obtain ⟨z, rfl, hz⟩ := nat_of_u64 w6
        refine ⟨kd, av, op, md, x, y, z, c7, ?_, hat 1 (by omega), hat 2 (by omega), hat 3 (by omega), hat 4 (by omega), hat 5 (by omega), hat 6 (by omega), hat 7 (by omega), w0, w1, w2, w3, hx, hy, hz, ⟨_, _, f3⟩⟩
        have := hat 0 (by omega)
        rwa [show (a.add (i * 8)).add 0 = a.add (i * 8) from rfl] at this
end
end Go.Proofs.YtldmbneckcjonabDoor
namespace Go.Proofs.YtldmbneckcjonabDoor
open Go.RowKit
/-- The i-th step's cells. -/
def IsSl (L : Value) : Prop := ∃ A n c, L = .slice A n c
def StepsIn (w : World) (A : Option Addr) (len : Nat) : Prop := ∀ i, i < len → ∃ a, A = some a ∧ a.block < w.heap.size ∧ ∃ Q : Value → Prop, (∀ L, Q L → IsSl L) ∧ StepAt w Q (a.add (i * 8))
theorem block_add' (a : Addr) (n : Nat) : (a.add n).block = a.block := by unfold Addr.add; split <;> rfl
theorem StepAt.below {w w' : World} {Q : Value → Prop} {p : Addr} {B : Nat} (h : StepAt w Q p) (hB : w.heap.size ≤ B) (hb : Below B w w') (hp : p.block < w.heap.size) : StepAt w' Q p := by
  obtain ⟨kd, av, op, md, x, y, z, L, h0, h1, h2, h3, h4, h5, h6, h7, r⟩ := h
  have k : ∀ (n : Nat) (v : Value), w.cell? (p.add n) = some v → w'.cell? (p.add n) = some v := fun n v hc => by rw [hb.cell (by rw [block_add']; omega)]; exact hc
  exact ⟨kd, av, op, md, x, y, z, L, by rw [hb.cell (by omega)]; exact h0, k 1 _ h1, k 2 _ h2, k 3 _ h3, k 4 _ h4, k 5 _ h5, k 6 _ h6, k 7 _ h7, r⟩
theorem add_at (p : Addr) {n : Nat} (hn : n ≠ 0) : p.add n = ⟨p.block, p.off + n, none⟩ := by unfold Addr.add; rw [if_neg hn]
theorem mod256 (x : Int) : ∃ o : Nat, x % 256 = o ∧ o < 256 := ⟨(x % 256).toNat, by omega, by omega⟩
theorem wrapSm {o : Nat} (h : o < 256) : wrap64 (o : Int) = o := by unfold wrap64; omega
theorem stepsIn_below {w w' : World} {A : Option Addr} {len : Nat} (h : StepsIn w A len) (hb : Below w.heap.size w w') : StepsIn w' A len := fun i hi => by
  obtain ⟨a, e, hblk, Q, hQ, hS⟩ := h i hi
  exact ⟨a, e, Nat.lt_of_lt_of_le hblk hb.size, Q, hQ, hS.below (Nat.le_refl _) hb (by rw [block_add']; exact hblk)⟩
theorem readsLL_slice {H : Type} {enc : TypeId × Value → H} {w : World} {base : Nat} {sp : Nat → Bool} {hd : Bool} {L : Value} (h : ReadsLL enc w base sp hd L) : IsSl L := by
  obtain ⟨n, y, h⟩ := h
  rcases Go.Deep.open_slice Tryd.underlying28 h with ⟨h0, _⟩ | ⟨a, len, cap, m, n, D, Pl, hcs, _⟩
  · exact ⟨none, 0, 0, by simpa using h0⟩
  · exact ⟨some a, len, cap, by simpa using hcs⟩
theorem stepsIn_of {H : Type} {enc : TypeId × Value → H} {W : World} {base : Nat} {sp : Nat → Bool} {hd : Bool} {A : Option Addr} {len : Nat} (h : ∀ i, i < len → ∃ a, A = some a ∧ a.block < W.heap.size ∧ StepAt W (ReadsLL enc W base sp hd) (a.add (i * 8))) : StepsIn W A len := fun i hi => by
  obtain ⟨a, e, hb, hS⟩ := h i hi
  exact ⟨a, e, hb, _, fun _ h => readsLL_slice h, hS⟩
end Go.Proofs.YtldmbneckcjonabDoor
namespace Go.Proofs.YtldmbneckcjonabDoor
open Go.RowKit
abbrev LREC (op md : Int) (a b c : Nat) : Value := .agg #[.int .i64 op, .int .i64 md, .int .u64 a, .int .u64 b, .int .u64 c]
set_option maxRecDepth 100000 in
set_option maxHeartbeats 400000 in
theorem given_any (op md : Int) (o m a b c : Nat) (ho : op % 256 = o) (hm : md % 256 = m) (w : World) : Calls Tryd.prog 10 #[LREC op md a b c] w fun e w' => e = .returned (REC o m a b c) ∧ Below w.heap.size w w' := by
  have ho2 : IntKind.u8.wrap op = o := by rw [IntKind.wrap_u8]; exact ho
  have hm2 : IntKind.u8.wrap md = m := by rw [IntKind.wrap_u8]; exact hm
  clear ho hm
  go_enter Tryd.func10, Tryd.ntmps10
  go_wp2_with fail
  refine bodyPost_ret (v := REC o m a b c) (by simp [results, Tryd.results10, go_sem, *]) rfl ⟨rfl, ?_⟩
  repeat' (first | with_reducible exact Below.refl _ _ | with_reducible assumption | with_reducible refine Below.drew ?_ | with_reducible refine bdrewN ?_ _ | with_reducible refine Below.alloc ?_ ?_ _ | with_reducible refine Below.setCell ?_ ?_ _ | with_reducible refine Below.trans ?_ (Below.mono (by assumption) ?_) | omega | (simp; done) | (simp; omega))
end Go.Proofs.YtldmbneckcjonabDoor
