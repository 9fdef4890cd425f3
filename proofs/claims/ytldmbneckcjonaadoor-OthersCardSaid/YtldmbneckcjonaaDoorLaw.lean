/- softfloatlaw.given, asked, same, done, of. -/
import Derived.Test.YtldmbneckcjonaaDoorDo
import Derived.Test.YtldmbneckcjonaaDoorRefDo
import Derived.Test.YtldmbneckcjonaaDoorScript
namespace Go.Proofs.YtldmbneckcjonaaDoor
open Go.RowKit
abbrev LREC (op md : Int) (a b c : Nat) : Value := .agg #[.int .i64 op, .int .i64 md, .int .u64 a, .int .u64 b, .int .u64 c]
set_option maxRecDepth 100000 in
set_option maxHeartbeats 400000 in
theorem given_any (op md : Int) (o m a b c : Nat) (ho : op % 256 = o) (hm : md % 256 = m) (w : World) : Calls Tryd.prog 30 #[LREC op md a b c] w fun e w' => e = .returned (REC o m a b c) ∧ Below w.heap.size w w' := by
  have ho2 : IntKind.u8.wrap op = o := by rw [IntKind.wrap_u8]; exact ho
  have hm2 : IntKind.u8.wrap md = m := by rw [IntKind.wrap_u8]; exact hm
  clear ho hm
  go_enter Tryd.func30, Tryd.ntmps30
  go_wp2_with fail
  refine bodyPost_ret (v := REC o m a b c) (by simp [results, Tryd.results30, go_sem, *]) rfl ⟨rfl, ?_⟩
  repeat' (first | with_reducible exact Below.refl _ _ | with_reducible assumption | with_reducible refine Below.drew ?_ | with_reducible refine bdrewN ?_ _ | with_reducible refine Below.alloc ?_ ?_ _ | with_reducible refine Below.setCell ?_ ?_ _ | with_reducible refine Below.trans ?_ (Below.mono (by assumption) ?_) | omega | (simp; done) | (simp; omega))
set_option maxRecDepth 100000 in
set_option maxHeartbeats 400000 in
theorem asked_any (op md : Int) (o m a b c : Nat) (ho : op % 256 = o) (hm : md % 256 = m) (w : World) : Calls Tryd.prog 36 #[LREC op md a b c] w fun e w' => e = .returned (RREC o m a b c) ∧ Below w.heap.size w w' := by
  have ho2 : IntKind.u8.wrap op = o := by rw [IntKind.wrap_u8]; exact ho
  have hm2 : IntKind.u8.wrap md = m := by rw [IntKind.wrap_u8]; exact hm
  have ho3 : wrap64 (o : Int) = o := by unfold wrap64; omega
  have hm3 : wrap64 (m : Int) = m := by unfold wrap64; omega
  clear ho hm
  go_enter Tryd.func36, Tryd.ntmps36
  go_wp2_with fail
  refine bodyPost_ret (v := RREC o m a b c) (by simp [results, Tryd.results36, go_sem, *]) rfl ⟨rfl, ?_⟩
  repeat' (first | with_reducible exact Below.refl _ _ | with_reducible assumption | with_reducible refine Below.drew ?_ | with_reducible refine bdrewN ?_ _ | with_reducible refine Below.alloc ?_ ?_ _ | with_reducible refine Below.setCell ?_ ?_ _ | with_reducible refine Below.trans ?_ (Below.mono (by assumption) ?_) | omega | (simp; done) | (simp; omega))
set_option maxRecDepth 100000 in
set_option maxHeartbeats 400000 in
theorem same_any (b f : Nat) (bad : Bool) (hf : f < 256) (w : World) : Calls Tryd.prog 37 #[RES1 b f bad, RV b f bad] w fun e w' => e = .returned (.bool true) ∧ Below w.heap.size w w' := by
  have hf3 : wrap64 (f : Int) = f := by unfold wrap64; omega
  clear hf
  go_enter Tryd.func37, Tryd.ntmps37
  go_wp2_with fail
  go_ret
  refine ⟨rfl, ?_⟩
  repeat' (first | with_reducible exact Below.refl _ _ | with_reducible assumption | with_reducible refine Below.drew ?_ | with_reducible refine bdrewN ?_ _ | with_reducible refine Below.alloc ?_ ?_ _ | with_reducible refine Below.setCell ?_ ?_ _ | with_reducible refine Below.trans ?_ (Below.mono (by assumption) ?_) | omega | (simp; done) | (simp; omega))
/-- The program and the reference answer alike. -/
def Agree (o m a b c : Nat) : Prop := ∃ bt fl bad, (∀ W, TableAt W → Calls Tryd.prog 29 #[REC o m a b c] W (SoftOut bt fl bad W)) ∧ (∀ W, Calls Tryd.prog 35 #[RREC o m a b c] W (RefOutB bt fl bad W)) ∧ fl < 256
set_option maxRecDepth 100000 in
set_option maxHeartbeats 1000000 in
theorem done_any (op md : Int) (o m a b c : Nat) (ho : op % 256 = o) (hm : md % 256 = m) (hA : Agree o m a b c) (w : World) (hT : TableAt w) : Calls Tryd.prog 20 #[LREC op md a b c] w fun e w' => e = .returned (.bool true) ∧ Below w.heap.size w w' := by
  obtain ⟨bt, fl, bad, D, RD, hfl⟩ := hA
  replace D := Lib.hid D
  replace RD := Lib.hid RD
  have G := Lib.hid (fun W => given_any op md o m a b c ho hm W)
  have AK := Lib.hid (fun W => asked_any op md o m a b c ho hm W)
  have S := Lib.hid (fun W => same_any bt fl bad hfl W)
  replace hT := Lib.hid hT
  clear ho hm hfl
  go_enter Tryd.func20, Tryd.ntmps20
  go_wp2_with fail
  refine (G.out _).mono ?_
  rintro e w1 ⟨rfl, hb1⟩; have hz_w1 := (hb1).size; (try simp at hz_w1); have hl_w1_0 : w.heap.size < w1.heap.size := (by omega); have hk_w1_0_0 : w1.cell? ⟨w.heap.size, 0, none⟩ = some (.int .i64 op) := (by rw [hb1.cell (p := ⟨w.heap.size, 0, none⟩) (by first | omega | (simp; done) | (simp; omega))]; go_simp; done); have hk_w1_0_1 : w1.cell? ⟨w.heap.size, 1, none⟩ = some (.int .i64 md) := (by rw [hb1.cell (p := ⟨w.heap.size, 1, none⟩) (by first | omega | (simp; done) | (simp; omega))]; go_simp; done); have hk_w1_0_2 : w1.cell? ⟨w.heap.size, 2, none⟩ = some (.int .u64 a) := (by rw [hb1.cell (p := ⟨w.heap.size, 2, none⟩) (by first | omega | (simp; done) | (simp; omega))]; go_simp; done); have hk_w1_0_3 : w1.cell? ⟨w.heap.size, 3, none⟩ = some (.int .u64 b) := (by rw [hb1.cell (p := ⟨w.heap.size, 3, none⟩) (by first | omega | (simp; done) | (simp; omega))]; go_simp; done); have hk_w1_0_4 : w1.cell? ⟨w.heap.size, 4, none⟩ = some (.int .u64 c) := (by rw [hb1.cell (p := ⟨w.heap.size, 4, none⟩) (by first | omega | (simp; done) | (simp; omega))]; go_simp; done)
  go_wp2_with fail
  refine (D.out _ (hT.out.below (Nat.le_refl _) ?_)).mono ?_
  · repeat' (first | with_reducible exact Below.refl _ _ | with_reducible assumption | with_reducible refine Below.drew ?_ | with_reducible refine bdrewN ?_ _ | with_reducible refine Below.alloc ?_ ?_ _ | with_reducible refine Below.setCell ?_ ?_ _ | with_reducible refine Below.trans ?_ (Below.mono (by assumption) ?_) | omega | (simp; done) | (simp; omega))
  rintro e w2 ⟨rfl, hb2⟩; have hz_w2 := (hb2).size; (try simp at hz_w2); have hl_w2_0 : w.heap.size < w2.heap.size := (by omega); have hk_w2_0_0 : w2.cell? ⟨w.heap.size, 0, none⟩ = some (.int .i64 op) := (by rw [hb2.cell (p := ⟨w.heap.size, 0, none⟩) (by first | omega | (simp; done) | (simp; omega))]; go_simp; done); have hk_w2_0_1 : w2.cell? ⟨w.heap.size, 1, none⟩ = some (.int .i64 md) := (by rw [hb2.cell (p := ⟨w.heap.size, 1, none⟩) (by first | omega | (simp; done) | (simp; omega))]; go_simp; done); have hk_w2_0_2 : w2.cell? ⟨w.heap.size, 2, none⟩ = some (.int .u64 a) := (by rw [hb2.cell (p := ⟨w.heap.size, 2, none⟩) (by first | omega | (simp; done) | (simp; omega))]; go_simp; done); have hk_w2_0_3 : w2.cell? ⟨w.heap.size, 3, none⟩ = some (.int .u64 b) := (by rw [hb2.cell (p := ⟨w.heap.size, 3, none⟩) (by first | omega | (simp; done) | (simp; omega))]; go_simp; done); have hk_w2_0_4 : w2.cell? ⟨w.heap.size, 4, none⟩ = some (.int .u64 c) := (by rw [hb2.cell (p := ⟨w.heap.size, 4, none⟩) (by first | omega | (simp; done) | (simp; omega))]; go_simp; done); have hk_w2_1_0 : w2.cell? ⟨w1.heap.size, 0, none⟩ = some (.int .u8 o) := (by rw [hb2.cell (p := ⟨w1.heap.size, 0, none⟩) (by first | omega | (simp; done) | (simp; omega))]; go_simp; done); have hk_w2_1_1 : w2.cell? ⟨w1.heap.size, 1, none⟩ = some (.int .u8 m) := (by rw [hb2.cell (p := ⟨w1.heap.size, 1, none⟩) (by first | omega | (simp; done) | (simp; omega))]; go_simp; done); have hk_w2_1_2 : w2.cell? ⟨w1.heap.size, 2, none⟩ = some (.int .u64 a) := (by rw [hb2.cell (p := ⟨w1.heap.size, 2, none⟩) (by first | omega | (simp; done) | (simp; omega))]; go_simp; done); have hk_w2_1_3 : w2.cell? ⟨w1.heap.size, 3, none⟩ = some (.int .u64 b) := (by rw [hb2.cell (p := ⟨w1.heap.size, 3, none⟩) (by first | omega | (simp; done) | (simp; omega))]; go_simp; done); have hk_w2_1_4 : w2.cell? ⟨w1.heap.size, 4, none⟩ = some (.int .u64 c) := (by rw [hb2.cell (p := ⟨w1.heap.size, 4, none⟩) (by first | omega | (simp; done) | (simp; omega))]; go_simp; done)
  have hlA_2 : w1.heap.size < w2.heap.size := by omega
  go_wp2_with fail
  refine (D.out _ (hT.out.below (Nat.le_refl _) ?_)).mono ?_
  · repeat' (first | with_reducible exact Below.refl _ _ | with_reducible assumption | with_reducible refine Below.drew ?_ | with_reducible refine bdrewN ?_ _ | with_reducible refine Below.alloc ?_ ?_ _ | with_reducible refine Below.setCell ?_ ?_ _ | with_reducible refine Below.trans ?_ (Below.mono (by assumption) ?_) | omega | (simp; done) | (simp; omega))
  rintro e w3 ⟨rfl, hb3⟩; have hz_w3 := (hb3).size; (try simp at hz_w3); have hl_w3_0 : w.heap.size < w3.heap.size := (by omega); have hk_w3_0_0 : w3.cell? ⟨w.heap.size, 0, none⟩ = some (.int .i64 op) := (by rw [hb3.cell (p := ⟨w.heap.size, 0, none⟩) (by first | omega | (simp; done) | (simp; omega))]; go_simp; done); have hk_w3_0_1 : w3.cell? ⟨w.heap.size, 1, none⟩ = some (.int .i64 md) := (by rw [hb3.cell (p := ⟨w.heap.size, 1, none⟩) (by first | omega | (simp; done) | (simp; omega))]; go_simp; done); have hk_w3_0_2 : w3.cell? ⟨w.heap.size, 2, none⟩ = some (.int .u64 a) := (by rw [hb3.cell (p := ⟨w.heap.size, 2, none⟩) (by first | omega | (simp; done) | (simp; omega))]; go_simp; done); have hk_w3_0_3 : w3.cell? ⟨w.heap.size, 3, none⟩ = some (.int .u64 b) := (by rw [hb3.cell (p := ⟨w.heap.size, 3, none⟩) (by first | omega | (simp; done) | (simp; omega))]; go_simp; done); have hk_w3_0_4 : w3.cell? ⟨w.heap.size, 4, none⟩ = some (.int .u64 c) := (by rw [hb3.cell (p := ⟨w.heap.size, 4, none⟩) (by first | omega | (simp; done) | (simp; omega))]; go_simp; done); have hk_w3_1_0 : w3.cell? ⟨w2.heap.size, 0, none⟩ = some (.int .u64 bt) := (by rw [hb3.cell (p := ⟨w2.heap.size, 0, none⟩) (by first | omega | (simp; done) | (simp; omega))]; go_simp; done); have hk_w3_1_1 : w3.cell? ⟨w2.heap.size, 1, none⟩ = some (.int .u8 fl) := (by rw [hb3.cell (p := ⟨w2.heap.size, 1, none⟩) (by first | omega | (simp; done) | (simp; omega))]; go_simp; done); have hk_w3_1_2 : w3.cell? ⟨w2.heap.size, 2, none⟩ = some (.bool bad) := (by rw [hb3.cell (p := ⟨w2.heap.size, 2, none⟩) (by first | omega | (simp; done) | (simp; omega))]; go_simp; done)
  have hlA_3 : w2.heap.size < w3.heap.size := by omega
  have hlA_3_1 : w1.heap.size < w3.heap.size := by omega
  go_wp2_with fail
  refine (AK.out _).mono ?_
  rintro e w4 ⟨rfl, hb4⟩; have hz_w4 := (hb4).size; (try simp at hz_w4); have hl_w4_0 : w.heap.size < w4.heap.size := (by omega); have hk_w4_0_0 : w4.cell? ⟨w2.heap.size, 0, none⟩ = some (.int .u64 bt) := (by rw [hb4.cell (p := ⟨w2.heap.size, 0, none⟩) (by first | omega | (simp; done) | (simp; omega))]; go_simp; done); have hk_w4_0_1 : w4.cell? ⟨w2.heap.size, 1, none⟩ = some (.int .u8 fl) := (by rw [hb4.cell (p := ⟨w2.heap.size, 1, none⟩) (by first | omega | (simp; done) | (simp; omega))]; go_simp; done); have hk_w4_0_2 : w4.cell? ⟨w2.heap.size, 2, none⟩ = some (.bool bad) := (by rw [hb4.cell (p := ⟨w2.heap.size, 2, none⟩) (by first | omega | (simp; done) | (simp; omega))]; go_simp; done); have hk_w4_1_0 : w4.cell? ⟨w3.heap.size, 0, none⟩ = some (.int .u64 bt) := (by rw [hb4.cell (p := ⟨w3.heap.size, 0, none⟩) (by first | omega | (simp; done) | (simp; omega))]; go_simp; done); have hk_w4_1_1 : w4.cell? ⟨w3.heap.size, 1, none⟩ = some (.int .u8 fl) := (by rw [hb4.cell (p := ⟨w3.heap.size, 1, none⟩) (by first | omega | (simp; done) | (simp; omega))]; go_simp; done); have hk_w4_1_2 : w4.cell? ⟨w3.heap.size, 2, none⟩ = some (.bool bad) := (by rw [hb4.cell (p := ⟨w3.heap.size, 2, none⟩) (by first | omega | (simp; done) | (simp; omega))]; go_simp; done)
  have hlA_4 : w3.heap.size < w4.heap.size := by omega
  have hlA_4_1 : w1.heap.size < w4.heap.size := by omega
  have hlA_4_2 : w2.heap.size < w4.heap.size := by omega
  go_wp2_with fail
  refine (RD.out _).mono ?_
  rintro e w5 ⟨rfl, hb5⟩; have hz_w5 := (hb5).size; (try simp at hz_w5); have hl_w5_0 : w.heap.size < w5.heap.size := (by omega); have hk_w5_0_0 : w5.cell? ⟨w2.heap.size, 0, none⟩ = some (.int .u64 bt) := (by rw [hb5.cell (p := ⟨w2.heap.size, 0, none⟩) (by first | omega | (simp; done) | (simp; omega))]; go_simp; done); have hk_w5_0_1 : w5.cell? ⟨w2.heap.size, 1, none⟩ = some (.int .u8 fl) := (by rw [hb5.cell (p := ⟨w2.heap.size, 1, none⟩) (by first | omega | (simp; done) | (simp; omega))]; go_simp; done); have hk_w5_0_2 : w5.cell? ⟨w2.heap.size, 2, none⟩ = some (.bool bad) := (by rw [hb5.cell (p := ⟨w2.heap.size, 2, none⟩) (by first | omega | (simp; done) | (simp; omega))]; go_simp; done); have hk_w5_1_0 : w5.cell? ⟨w3.heap.size, 0, none⟩ = some (.int .u64 bt) := (by rw [hb5.cell (p := ⟨w3.heap.size, 0, none⟩) (by first | omega | (simp; done) | (simp; omega))]; go_simp; done); have hk_w5_1_1 : w5.cell? ⟨w3.heap.size, 1, none⟩ = some (.int .u8 fl) := (by rw [hb5.cell (p := ⟨w3.heap.size, 1, none⟩) (by first | omega | (simp; done) | (simp; omega))]; go_simp; done); have hk_w5_1_2 : w5.cell? ⟨w3.heap.size, 2, none⟩ = some (.bool bad) := (by rw [hb5.cell (p := ⟨w3.heap.size, 2, none⟩) (by first | omega | (simp; done) | (simp; omega))]; go_simp; done)
  have hlA_5_1 : w1.heap.size < w5.heap.size := by omega
  have hlA_5_2 : w2.heap.size < w5.heap.size := by omega
  have hlA_5_3 : w3.heap.size < w5.heap.size := by omega
  go_wp2_with fail
  refine (S.out _).mono ?_
  rintro e w6 ⟨rfl, hb6⟩; have hz_w6 := (hb6).size; (try simp at hz_w6); have hl_w6_0 : w.heap.size < w6.heap.size := (by omega); have hk_w6_0_0 : w6.cell? ⟨w3.heap.size, 0, none⟩ = some (.int .u64 bt) := (by rw [hb6.cell (p := ⟨w3.heap.size, 0, none⟩) (by first | omega | (simp; done) | (simp; omega))]; go_simp; done); have hk_w6_0_1 : w6.cell? ⟨w3.heap.size, 1, none⟩ = some (.int .u8 fl) := (by rw [hb6.cell (p := ⟨w3.heap.size, 1, none⟩) (by first | omega | (simp; done) | (simp; omega))]; go_simp; done); have hk_w6_0_2 : w6.cell? ⟨w3.heap.size, 2, none⟩ = some (.bool bad) := (by rw [hb6.cell (p := ⟨w3.heap.size, 2, none⟩) (by first | omega | (simp; done) | (simp; omega))]; go_simp; done); have hk_w6_1_0 : w6.cell? ⟨w5.heap.size, 0, none⟩ = some (.int .u64 bt) := (by rw [hb6.cell (p := ⟨w5.heap.size, 0, none⟩) (by first | omega | (simp; done) | (simp; omega))]; go_simp; done); have hk_w6_1_1 : w6.cell? ⟨w5.heap.size, 1, none⟩ = some (.int .i64 fl) := (by rw [hb6.cell (p := ⟨w5.heap.size, 1, none⟩) (by first | omega | (simp; done) | (simp; omega))]; go_simp; done); have hk_w6_1_2 : w6.cell? ⟨w5.heap.size, 2, none⟩ = some (.bool bad) := (by rw [hb6.cell (p := ⟨w5.heap.size, 2, none⟩) (by first | omega | (simp; done) | (simp; omega))]; go_simp; done)
  have hlA_6 : w5.heap.size < w6.heap.size := by omega
  have hlA_6_1 : w1.heap.size < w6.heap.size := by omega
  have hlA_6_2 : w2.heap.size < w6.heap.size := by omega
  have hlA_6_3 : w3.heap.size < w6.heap.size := by omega
  have hlA_6_4 : w4.heap.size < w6.heap.size := by omega
  go_wp2_with fail
  refine (S.out _).mono ?_
  rintro e w7 ⟨rfl, hb7⟩
  go_wp2_with fail
  go_ret
  refine ⟨rfl, ?_⟩
  repeat' (first | with_reducible exact Below.refl _ _ | with_reducible assumption | with_reducible refine Below.drew ?_ | with_reducible refine bdrewN ?_ _ | with_reducible refine Below.alloc ?_ ?_ _ | with_reducible refine Below.setCell ?_ ?_ _ | with_reducible refine Below.trans ?_ (Below.mono (by assumption) ?_) | omega | (simp; done) | (simp; omega))
end Go.Proofs.YtldmbneckcjonaaDoor
