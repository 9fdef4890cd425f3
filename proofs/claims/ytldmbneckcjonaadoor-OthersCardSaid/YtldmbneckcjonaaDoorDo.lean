/- soft.Do: by its table. -/
import Derived.Test.YtldmbneckcjonaaDoorNans
import Derived.LaidMore
namespace Go.Proofs.YtldmbneckcjonaaDoor
open Go.RowKit
/-- The table's function of an operation. -/
def fnOf (op : Nat) : FuncId := if op = 1 then 130 else if op = 2 then 131 else if op = 3 then 132 else if op = 4 then 133 else if op = 5 then 134 else if op = 6 then 135 else if op = 7 then 136 else if op = 8 then 137 else if op = 9 then 138 else 139
def TableAt (w : World) : Prop := ∀ op, 1 ≤ op → op ≤ 10 → w.cell? ⟨0, op * 2, none⟩ = some (.int .i64 (nOps op)) ∧ w.cell? ⟨0, op * 2 + 1, none⟩ = some (.func (.func (fnOf op)) #[] #[])
theorem TableAt.below {w w' : World} {B : Nat} (h : TableAt w) (hB : w.heap.size ≤ B) (hb : Below B w w') : TableAt w' := fun op h1 h2 => by
  obtain ⟨a, b⟩ := h op h1 h2
  have hl := World.block_lt_of_cell? _ _ a
  exact ⟨by rw [hb.cell (p := ⟨0, _, none⟩) (by simp at hl ⊢; omega)]; exact a, by rw [hb.cell (p := ⟨0, _, none⟩) (by simp at hl ⊢; omega)]; exact b⟩
theorem store_func (P : Program) (w : World) (a : Addr) (m : Mode) (fn : Fn) (first captured : Array Value) : (store a (.func fn first captured) m).run P w = stored P w a (.func fn first captured) m := run_store P w a _ m rfl
attribute [local go_sem] store_func
def SoftOut (b f : Nat) (bad : Bool) (w : World) (e : Ending) (w' : World) : Prop := e = .returned (RES1 b f bad) ∧ Below w.heap.size w w'
set_option maxRecDepth 100000 in
set_option maxHeartbeats 400000 in
theorem Do_zero (op md a b c : Nat) (h : ((op : Int) == 0) = true) (w : World) : Calls Tryd.prog 29 #[REC op md a b c] w (SoftOut 0 0 true w) := by
  go_enter Tryd.func29, Tryd.ntmps29
  go_wp2_with fail
  refine bodyPost_ret (v := RES1 0 0 true) (by simp [results, Tryd.results29, go_sem, *]) rfl ⟨rfl, ?_⟩
  repeat' (first | with_reducible exact Below.refl _ _ | with_reducible assumption | with_reducible refine Below.drew ?_ | with_reducible refine bdrewN ?_ _ | with_reducible refine Below.alloc ?_ ?_ _ | with_reducible refine Below.setCell ?_ ?_ _ | with_reducible refine Below.trans ?_ (Below.mono (by assumption) ?_) | omega | (simp; done) | (simp; omega))
set_option maxRecDepth 100000 in
set_option maxHeartbeats 400000 in
theorem Do_many (op md a b c : Nat) (h : 11 ≤ op) (hop : op < 256) (w : World) : Calls Tryd.prog 29 #[REC op md a b c] w (SoftOut 0 0 true w) := by
  have f1 : ((op : Int) == 0) = false := by rw [beq_eq_false_iff_ne]; omega
  have f2 : decide ((11 : Int) ≤ op) = true := decide_eq_true (by omega)
  go_enter Tryd.func29, Tryd.ntmps29
  go_wp2_with fail
  refine bodyPost_ret (v := RES1 0 0 true) (by simp [results, Tryd.results29, go_sem, *]) rfl ⟨rfl, ?_⟩
  repeat' (first | with_reducible exact Below.refl _ _ | with_reducible assumption | with_reducible refine Below.drew ?_ | with_reducible refine bdrewN ?_ _ | with_reducible refine Below.alloc ?_ ?_ _ | with_reducible refine Below.setCell ?_ ?_ _ | with_reducible refine Below.trans ?_ (Below.mono (by assumption) ?_) | omega | (simp; done) | (simp; omega))
set_option maxRecDepth 100000 in
set_option maxHeartbeats 400000 in
theorem Do_mode (op md a b c : Nat) (h0 : op ≠ 0) (h1 : op < 11) (h : 5 ≤ md) (w : World) : Calls Tryd.prog 29 #[REC op md a b c] w (SoftOut 0 0 true w) := by
  have f1 : ((op : Int) == 0) = false := by rw [beq_eq_false_iff_ne]; omega
  have f2 : decide ((11 : Int) ≤ op) = false := decide_eq_false (by omega)
  have f3 : decide ((4 : Int) < md) = true := decide_eq_true (by omega)
  go_enter Tryd.func29, Tryd.ntmps29
  go_wp2_with fail
  refine bodyPost_ret (v := RES1 0 0 true) (by simp [results, Tryd.results29, go_sem, *]) rfl ⟨rfl, ?_⟩
  repeat' (first | with_reducible exact Below.refl _ _ | with_reducible assumption | with_reducible refine Below.drew ?_ | with_reducible refine bdrewN ?_ _ | with_reducible refine Below.alloc ?_ ?_ _ | with_reducible refine Below.setCell ?_ ?_ _ | with_reducible refine Below.trans ?_ (Below.mono (by assumption) ?_) | omega | (simp; done) | (simp; omega))
set_option maxRecDepth 100000 in
set_option maxHeartbeats 1000000 in
theorem Do_nan (op md a b c bt fl : Nat) (h0 : op ≠ 0) (h1 : op < 11) (h : ¬ 5 ≤ md) (ua : U64 a) (ub : U64 b) (uc : U64 c) (hR : nanR op a b c (nOps op) = (true, bt, fl)) (w : World) (hT : TableAt w) :
    Calls Tryd.prog 29 #[REC op md a b c] w (SoftOut bt fl false w) := by
  have f1 : ((op : Int) == 0) = false := by rw [beq_eq_false_iff_ne]; omega
  have f2 : decide ((11 : Int) ≤ op) = false := decide_eq_false (by omega)
  have f3 : decide ((4 : Int) < md) = false := decide_eq_false (by omega)
  obtain ⟨t0, t1⟩ := hT op (by omega) (by omega)
  have C := Lib.hid (fun W => nans_any op md a b c _ (nOps_le op) ua ub uc W)
  rw [hR] at C
  generalize nOps op = n at *
  generalize fnOf op = f at *
  have g0 := World.block_lt_of_cell? _ _ t0
  simp only at g0
  clear hR h ua ub uc hT
  go_enter Tryd.func29, Tryd.ntmps29
  go_wp2_with fail
  refine (C.out _).mono ?_
  rintro e w1 ⟨rfl, hb1⟩; have hz_w1 := (hb1).size; (try simp at hz_w1); have hl_w1_0 : w.heap.size < w1.heap.size := (by omega); have hl_w1_1 : w.heap.size + 1 < w1.heap.size := (by omega); have hl_w1_2 : w.heap.size + 1 + 1 < w1.heap.size := (by omega); have hk_w1_0_0 : w1.cell? ⟨w.heap.size + 1, 0, none⟩ = some (.int .u64 0) := (by rw [hb1.cell (p := ⟨w.heap.size + 1, 0, none⟩) (by first | omega | (simp; done) | (simp; omega))]; go_simp; done); have hg_w1_0_0 : w1.frozen? ⟨w.heap.size + 1, 0, none⟩ = false := (by rw [hb1.frozen (p := ⟨w.heap.size + 1, 0, none⟩) (by first | omega | (simp; done) | (simp; omega))]; go_simp; done); have hk_w1_0_1 : w1.cell? ⟨w.heap.size + 1, 1, none⟩ = some (.int .u8 0) := (by rw [hb1.cell (p := ⟨w.heap.size + 1, 1, none⟩) (by first | omega | (simp; done) | (simp; omega))]; go_simp; done); have hg_w1_0_1 : w1.frozen? ⟨w.heap.size + 1, 1, none⟩ = false := (by rw [hb1.frozen (p := ⟨w.heap.size + 1, 1, none⟩) (by first | omega | (simp; done) | (simp; omega))]; go_simp; done); have hk_w1_0_2 : w1.cell? ⟨w.heap.size + 1, 2, none⟩ = some (.bool false) := (by rw [hb1.cell (p := ⟨w.heap.size + 1, 2, none⟩) (by first | omega | (simp; done) | (simp; omega))]; go_simp; done); have hg_w1_0_2 : w1.frozen? ⟨w.heap.size + 1, 2, none⟩ = false := (by rw [hb1.frozen (p := ⟨w.heap.size + 1, 2, none⟩) (by first | omega | (simp; done) | (simp; omega))]; go_simp; done); have hk_w1_1_0 : w1.cell? ⟨w.heap.size, 0, none⟩ = some (.int .u8 op) := (by rw [hb1.cell (p := ⟨w.heap.size, 0, none⟩) (by first | omega | (simp; done) | (simp; omega))]; go_simp; done); have hk_w1_1_1 : w1.cell? ⟨w.heap.size, 1, none⟩ = some (.int .u8 md) := (by rw [hb1.cell (p := ⟨w.heap.size, 1, none⟩) (by first | omega | (simp; done) | (simp; omega))]; go_simp; done); have hk_w1_1_2 : w1.cell? ⟨w.heap.size, 2, none⟩ = some (.int .u64 a) := (by rw [hb1.cell (p := ⟨w.heap.size, 2, none⟩) (by first | omega | (simp; done) | (simp; omega))]; go_simp; done); have hk_w1_1_3 : w1.cell? ⟨w.heap.size, 3, none⟩ = some (.int .u64 b) := (by rw [hb1.cell (p := ⟨w.heap.size, 3, none⟩) (by first | omega | (simp; done) | (simp; omega))]; go_simp; done); have hk_w1_1_4 : w1.cell? ⟨w.heap.size, 4, none⟩ = some (.int .u64 c) := (by rw [hb1.cell (p := ⟨w.heap.size, 4, none⟩) (by first | omega | (simp; done) | (simp; omega))]; go_simp; done); have hk_w1_2_0 : w1.cell? ⟨w.heap.size + 1 + 1, 0, none⟩ = some (.int .i64 n) := (by rw [hb1.cell (p := ⟨w.heap.size + 1 + 1, 0, none⟩) (by first | omega | (simp; done) | (simp; omega))]; go_simp; done); have hk_w1_2_1 : w1.cell? ⟨w.heap.size + 1 + 1, 1, none⟩ = some (.func (.func f) #[] #[]) := (by rw [hb1.cell (p := ⟨w.heap.size + 1 + 1, 1, none⟩) (by first | omega | (simp; done) | (simp; omega))]; go_simp; done)
  go_wp2_with fail
  refine bodyPost_ret (v := RES1 bt fl false) (by simp [results, Tryd.results29, go_sem, *]) rfl ⟨rfl, ?_⟩
  repeat' (first | with_reducible exact Below.refl _ _ | with_reducible assumption | with_reducible refine Below.drew ?_ | with_reducible refine bdrewN ?_ _ | with_reducible refine Below.alloc ?_ ?_ _ | with_reducible refine Below.setCell ?_ ?_ _ | with_reducible refine Below.trans ?_ (Below.mono (by assumption) ?_) | omega | (simp; done) | (simp; omega))
set_option maxRecDepth 100000 in
set_option maxHeartbeats 1000000 in
theorem Do_go (op md a b c bt fl : Nat) (hE : ∀ (args : Array Value) (w : World), (callFunc (fnOf op) args).run Tryd.prog w = .ok (.enter (fnOf op) args) w) (h0 : op ≠ 0) (h1 : op < 11) (h : ¬ 5 ≤ md) (ua : U64 a) (ub : U64 b) (uc : U64 c) (hR : nanR op a b c (nOps op) = (false, 0, 0))
    (D : Hid (∀ W, Calls Tryd.prog (fnOf op) #[REC op md a b c] W (SoftOut bt fl false W))) (w : World) (hT : TableAt w) :
    Calls Tryd.prog 29 #[REC op md a b c] w (SoftOut bt fl false w) := by
  have f1 : ((op : Int) == 0) = false := by rw [beq_eq_false_iff_ne]; omega
  have f2 : decide ((11 : Int) ≤ op) = false := decide_eq_false (by omega)
  have f3 : decide ((4 : Int) < md) = false := decide_eq_false (by omega)
  obtain ⟨t0, t1⟩ := hT op (by omega) (by omega)
  have C := Lib.hid (fun W => nans_any op md a b c _ (nOps_le op) ua ub uc W)
  rw [hR] at C
  generalize nOps op = n at *
  generalize fnOf op = f at *
  have g0 := World.block_lt_of_cell? _ _ t0
  simp only at g0
  clear hR h ua ub uc hT
  go_enter Tryd.func29, Tryd.ntmps29
  go_wp2_with fail
  refine (C.out _).mono ?_
  rintro e w1 ⟨rfl, hb1⟩; have hz_w1 := (hb1).size; (try simp at hz_w1); have hl_w1_0 : w.heap.size < w1.heap.size := (by omega); have hl_w1_1 : w.heap.size + 1 < w1.heap.size := (by omega); have hl_w1_2 : w.heap.size + 1 + 1 < w1.heap.size := (by omega); have hk_w1_0_0 : w1.cell? ⟨w.heap.size + 1, 0, none⟩ = some (.int .u64 0) := (by rw [hb1.cell (p := ⟨w.heap.size + 1, 0, none⟩) (by first | omega | (simp; done) | (simp; omega))]; go_simp; done); have hg_w1_0_0 : w1.frozen? ⟨w.heap.size + 1, 0, none⟩ = false := (by rw [hb1.frozen (p := ⟨w.heap.size + 1, 0, none⟩) (by first | omega | (simp; done) | (simp; omega))]; go_simp; done); have hk_w1_0_1 : w1.cell? ⟨w.heap.size + 1, 1, none⟩ = some (.int .u8 0) := (by rw [hb1.cell (p := ⟨w.heap.size + 1, 1, none⟩) (by first | omega | (simp; done) | (simp; omega))]; go_simp; done); have hg_w1_0_1 : w1.frozen? ⟨w.heap.size + 1, 1, none⟩ = false := (by rw [hb1.frozen (p := ⟨w.heap.size + 1, 1, none⟩) (by first | omega | (simp; done) | (simp; omega))]; go_simp; done); have hk_w1_0_2 : w1.cell? ⟨w.heap.size + 1, 2, none⟩ = some (.bool false) := (by rw [hb1.cell (p := ⟨w.heap.size + 1, 2, none⟩) (by first | omega | (simp; done) | (simp; omega))]; go_simp; done); have hg_w1_0_2 : w1.frozen? ⟨w.heap.size + 1, 2, none⟩ = false := (by rw [hb1.frozen (p := ⟨w.heap.size + 1, 2, none⟩) (by first | omega | (simp; done) | (simp; omega))]; go_simp; done); have hk_w1_1_0 : w1.cell? ⟨w.heap.size, 0, none⟩ = some (.int .u8 op) := (by rw [hb1.cell (p := ⟨w.heap.size, 0, none⟩) (by first | omega | (simp; done) | (simp; omega))]; go_simp; done); have hk_w1_1_1 : w1.cell? ⟨w.heap.size, 1, none⟩ = some (.int .u8 md) := (by rw [hb1.cell (p := ⟨w.heap.size, 1, none⟩) (by first | omega | (simp; done) | (simp; omega))]; go_simp; done); have hk_w1_1_2 : w1.cell? ⟨w.heap.size, 2, none⟩ = some (.int .u64 a) := (by rw [hb1.cell (p := ⟨w.heap.size, 2, none⟩) (by first | omega | (simp; done) | (simp; omega))]; go_simp; done); have hk_w1_1_3 : w1.cell? ⟨w.heap.size, 3, none⟩ = some (.int .u64 b) := (by rw [hb1.cell (p := ⟨w.heap.size, 3, none⟩) (by first | omega | (simp; done) | (simp; omega))]; go_simp; done); have hk_w1_1_4 : w1.cell? ⟨w.heap.size, 4, none⟩ = some (.int .u64 c) := (by rw [hb1.cell (p := ⟨w.heap.size, 4, none⟩) (by first | omega | (simp; done) | (simp; omega))]; go_simp; done); have hk_w1_2_0 : w1.cell? ⟨w.heap.size + 1 + 1, 0, none⟩ = some (.int .i64 n) := (by rw [hb1.cell (p := ⟨w.heap.size + 1 + 1, 0, none⟩) (by first | omega | (simp; done) | (simp; omega))]; go_simp; done); have hk_w1_2_1 : w1.cell? ⟨w.heap.size + 1 + 1, 1, none⟩ = some (.func (.func f) #[] #[]) := (by rw [hb1.cell (p := ⟨w.heap.size + 1 + 1, 1, none⟩) (by first | omega | (simp; done) | (simp; omega))]; go_simp; done)
  go_wp2_with fail
  refine (D.out _).mono ?_
  rintro e w2 ⟨rfl, hb2⟩; have hz_w2 := (hb2).size; (try simp at hz_w2); have hl_w2_0 : w.heap.size < w2.heap.size := (by omega); have hl_w2_1 : w.heap.size + 1 < w2.heap.size := (by omega); have hl_w2_2 : w.heap.size + 1 + 1 < w2.heap.size := (by omega); have hk_w2_0_0 : w2.cell? ⟨w.heap.size + 1, 0, none⟩ = some (.int .u64 0) := (by rw [hb2.cell (p := ⟨w.heap.size + 1, 0, none⟩) (by first | omega | (simp; done) | (simp; omega))]; go_simp; done); have hg_w2_0_0 : w2.frozen? ⟨w.heap.size + 1, 0, none⟩ = false := (by rw [hb2.frozen (p := ⟨w.heap.size + 1, 0, none⟩) (by first | omega | (simp; done) | (simp; omega))]; go_simp; done); have hk_w2_0_1 : w2.cell? ⟨w.heap.size + 1, 1, none⟩ = some (.int .u8 0) := (by rw [hb2.cell (p := ⟨w.heap.size + 1, 1, none⟩) (by first | omega | (simp; done) | (simp; omega))]; go_simp; done); have hg_w2_0_1 : w2.frozen? ⟨w.heap.size + 1, 1, none⟩ = false := (by rw [hb2.frozen (p := ⟨w.heap.size + 1, 1, none⟩) (by first | omega | (simp; done) | (simp; omega))]; go_simp; done); have hk_w2_0_2 : w2.cell? ⟨w.heap.size + 1, 2, none⟩ = some (.bool false) := (by rw [hb2.cell (p := ⟨w.heap.size + 1, 2, none⟩) (by first | omega | (simp; done) | (simp; omega))]; go_simp; done); have hg_w2_0_2 : w2.frozen? ⟨w.heap.size + 1, 2, none⟩ = false := (by rw [hb2.frozen (p := ⟨w.heap.size + 1, 2, none⟩) (by first | omega | (simp; done) | (simp; omega))]; go_simp; done)
  go_wp2_with fail
  refine bodyPost_ret (v := RES1 bt fl false) (by simp [results, Tryd.results29, go_sem, *]) rfl ⟨rfl, ?_⟩
  repeat' (first | with_reducible exact Below.refl _ _ | with_reducible assumption | with_reducible refine Below.drew ?_ | with_reducible refine bdrewN ?_ _ | with_reducible refine Below.alloc ?_ ?_ _ | with_reducible refine Below.setCell ?_ ?_ _ | with_reducible refine Below.trans ?_ (Below.mono (by assumption) ?_) | omega | (simp; done) | (simp; omega))
set_option maxRecDepth 100000 in
set_option maxHeartbeats 400000 in
theorem clear_any (op md a b c : Nat) (w : World) : Calls Tryd.prog 139 #[REC op md a b c] w (SoftOut 0 0 false w) := by
  go_enter Tryd.func139, Tryd.ntmps139
  go_wp2_with fail
  refine bodyPost_ret (v := RES1 0 0 false) (by simp [results, Tryd.results139, go_sem, *]) rfl ⟨rfl, ?_⟩
  repeat' (first | with_reducible exact Below.refl _ _ | with_reducible assumption | with_reducible refine Below.drew ?_ | with_reducible refine bdrewN ?_ _ | with_reducible refine Below.alloc ?_ ?_ _ | with_reducible refine Below.setCell ?_ ?_ _ | with_reducible refine Below.trans ?_ (Below.mono (by assumption) ?_) | omega | (simp; done) | (simp; omega))
theorem Do_clear (md a b c : Nat) (h : ¬ 5 ≤ md) (ua : U64 a) (ub : U64 b) (uc : U64 c) (w : World) (hT : TableAt w) : Calls Tryd.prog 29 #[REC 10 md a b c] w (SoftOut 0 0 false w) :=
  Do_go 10 md a b c 0 0 (fun args w => Tryd.call139 args w) (by decide) (by decide) h ua ub uc (nanR_no rfl) (fun W => clear_any 10 md a b c W) w hT
end Go.Proofs.YtldmbneckcjonaaDoor
