/- Several texts in one: soft.plus. · Plain: how great the parts of a sum are. No program in sight; each lemma states its own conditions. · soft.summed, soft.add, soft.sub. · soft.plus, soft.summed, soft.add, soft.sub, whole. -/
import Derived.Deep.RegionHeld3
import Derived.Deep.RegionWith
import Derived.Deep.DeepCutAuto
import Derived.Test.YtldmbneckcjonabDoorGN
import Derived.Test.YtldmbneckcjonabDoorGC
import Derived.Test.YtldmbneckcjonabDoorGA
import Derived.Test.YtldmbneckcjonabDoorGD
set_option linter.unusedVariables false
set_option linter.unusedSimpArgs false
namespace Go.Proofs.YtldmbneckcjonabDoor
open Go.RowKit
theorem NB.zero {W : World} : NB (W.alloc (.cells #[.bool false, .int .i64 0, .int .u64 0, .int .u64 0, .int .u64 0, .int .u64 0, .bool false] 77)) W.heap.size false 0 0 false := by
  have := NB.new (W := W) (n := false) (e := 0) (s := 0) (l := false)
  have e : NO false 0 0 false = .cells #[.bool false, .int .i64 0, .int .u64 0, .int .u64 0, .int .u64 0, .int .u64 0, .bool false] 77 := by simp only [NO, wd_zero]; rfl
  rw [e] at this
  exact this
section
variable {B g : Nat} {a W : World}
theorem bput1 (h : Below B a W) (hg : B ≤ g) (i : Nat) (v : Value) : Below B a (W.setCell ⟨g, i, none⟩ v) := h.setCell (p := ⟨g, i, none⟩) hg v
theorem bput4 (h : Below B a W) (hg : B ≤ g) (v0 v1 v2 v3 : Value) : Below B a ((((W.setCell ⟨g, 2, none⟩ v0).setCell ⟨g, 3, none⟩ v1).setCell ⟨g, 4, none⟩ v2).setCell ⟨g, 5, none⟩ v3) := bput1 (bput1 (bput1 (bput1 h hg _ _) hg _ _) hg _ _) hg _ _
theorem bput7 (h : Below B a W) (hg : B ≤ g) (v0 v1 v2 v3 v4 v5 v6 : Value) : Below B a (((((((W.setCell ⟨g, 0, none⟩ v0).setCell ⟨g, 1, none⟩ v1).setCell ⟨g, 2, none⟩ v2).setCell ⟨g, 3, none⟩ v3).setCell ⟨g, 4, none⟩ v4).setCell ⟨g, 5, none⟩ v5).setCell ⟨g, 6, none⟩ v6) := bput1 (bput4 (bput1 (bput1 h hg _ _) hg _ _) hg _ _ _ _) hg _ _
end
/-- plus' three boxes. -/
def PB (w : World) (n1 : Bool) (e1 : Int) (s1 : Nat) (l1 : Bool) (n2 : Bool) (e2 : Int) (s2 : Nat) (l2 : Bool) (W : World) : Prop :=
  NB W w.heap.size n1 e1 s1 l1 ∧ NB W (w.heap.size + 1) n2 e2 s2 l2 ∧ NB W (w.heap.size + 1 + 1) false 0 0 false ∧ Below w.heap.size w W
section
variable {w W W1 : World} {n1 n2 : Bool} {e1 e2 : Int} {s1 s2 : Nat} {l1 l2 : Bool}
theorem PB.call (h : PB w n1 e1 s1 l1 n2 e2 s2 l2 W) (hb : Below W.heap.size W W1) : PB w n1 e1 s1 l1 n2 e2 s2 l2 W1 :=
  ⟨h.1.call hb, h.2.1.call hb, h.2.2.1.call hb, h.2.2.2.trans (hb.mono h.2.2.2.size)⟩
theorem PB.drew (h : PB w n1 e1 s1 l1 n2 e2 s2 l2 W) : PB w n1 e1 s1 l1 n2 e2 s2 l2 W.drew := ⟨h.1, h.2.1, h.2.2.1, h.2.2.2.drew⟩
theorem PB.start : PB w n1 e1 s1 l1 n2 e2 s2 l2 (((w.alloc (NO n1 e1 s1 l1)).alloc (NO n2 e2 s2 l2)).alloc (.cells #[.bool false, .int .i64 0, .int .u64 0, .int .u64 0, .int .u64 0, .int .u64 0, .bool false] 77)) := by
  refine ⟨(NB.new.alloc _).alloc _, ?_, ?_, (((Below.refl _ w).alloc (by simp) _).alloc (by simp) _).alloc (by simp; omega) _⟩
  · have := NB.new (W := w.alloc (NO n1 e1 s1 l1)) (n := n2) (e := e2) (s := s2) (l := l2)
    have e : (w.alloc (NO n1 e1 s1 l1)).heap.size = w.heap.size + 1 := by simp
    rw [e] at this
    exact this.alloc _
  · have := NB.zero (W := (w.alloc (NO n1 e1 s1 l1)).alloc (NO n2 e2 s2 l2))
    have e : ((w.alloc (NO n1 e1 s1 l1)).alloc (NO n2 e2 s2 l2)).heap.size = w.heap.size + 1 + 1 := by simp
    rw [e] at this
    exact this
end
theorem Sub_one (a : Nat) (ha : U256 a) (w : World) : Calls Tryd.prog 65 #[W4 a, .agg #[.int .u64 1, .int .u64 0, .int .u64 0, .int .u64 0]] w fun e w' => e = .returned (.tuple #[W4 (subN a 1), .bool (decide (a < 1))]) ∧ Below w.heap.size w w' := by
  have h1 : U256 1 := by unfold U256; decide
  have := Sub_any a 1 ha h1 w
  have e : W4 1 = .agg #[.int .u64 1, .int .u64 0, .int .u64 0, .int .u64 0] := small_words (show 1 < 18446744073709551616 by decide)
  rw [e] at this
  exact this
attribute [local go_sem] eq0W_run
set_option maxRecDepth 100000 in
set_option maxHeartbeats 9000000 in
theorem plus_go (na nb n1 n2 : Bool) (ea eb e1 e2 ta tb : Int) (sa sb s1 s2 : Nat) (hsa : U256 sa) (hsb : U256 sb) (za : decide (0 = sa) = false) (zb : decide (0 = sb) = false)
    (hta : IntKind.i64.wrap (ea + (bl sa : Int)) = ta) (htb : IntKind.i64.wrap (eb + (bl sb : Int)) = tb)
    (hsw : Hid ((ta < tb ∧ n1 = nb ∧ e1 = eb ∧ s1 = sb ∧ n2 = na ∧ e2 = ea ∧ s2 = sa) ∨ (¬ ta < tb ∧ n1 = na ∧ e1 = ea ∧ s1 = sa ∧ n2 = nb ∧ e2 = eb ∧ s2 = sb)))
    (hs1 : U256 s1) (k : Nat) (hk : wrap64 (250 - (bl s1 : Int)) = k) (hkb : k < 251) (A : Nat) (hA : shlN s1 k = A) (uA : U256 A) (E : Int) (hE : IntKind.i64.wrap (e1 - k) = E) (hs2 : U256 s2) (D : Int) (hD : wrap64 (E - e2) = D)
    (B : Nat) (lf : Bool) (uB : U256 B) (nD : Int) (hnD : wrap64 (-D) = nD) (hB : Hid ((0 < D ∧ B = s2 / 2 ^ D.toNat ∧ lf = decide (s2 % 2 ^ D.toNat ≠ 0)) ∨ (¬ 0 < D ∧ 0 ≤ nD ∧ nD < 100000 ∧ B = shlN s2 nD.toNat ∧ lf = false)))
    (nr : Bool) (sr : Nat) (lr : Bool)
    (hR : Hid ((n1 = n2 ∧ U256 (A + B) ∧ nr = n1 ∧ sr = A + B ∧ lr = lf) ∨ (n1 ≠ n2 ∧ A < B ∧ nr = n2 ∧ sr = subN B A ∧ lr = false) ∨ (n1 ≠ n2 ∧ ¬ A < B ∧ lf = true ∧ nr = n1 ∧ sr = subN (subN A B) 1 ∧ lr = true) ∨ (n1 ≠ n2 ∧ ¬ A < B ∧ lf = false ∧ nr = n1 ∧ sr = subN A B ∧ lr = false)))
    (w : World) :
    Calls Tryd.prog 51 #[NV na ea sa false, NV nb eb sb false] w fun e w' => e = .returned (NV nr E sr lr) ∧ Below w.heap.size w w' := by
  have La := Lib.hid (fun W => Len_any sa hsa W)
  have Lb := Lib.hid (fun W => Len_any sb hsb W)
  have hP := PB.start (w := w) (n1 := na) (e1 := ea) (s1 := sa) (l1 := false) (n2 := nb) (e2 := eb) (s2 := sb) (l2 := false)
  go_enter Tryd.func51, Tryd.ntmps51
  go_upto_region 6 with (fail)
  go_cut [31] (fun s wx => s = .bool (decide (ta < tb)) ∧ PB w na ea sa false nb eb sb false wx)
  case first =>
    go_region_held3 (fun w' => (w'.cell? ⟨w.heap.size, 0, none⟩ = some (Value.bool (na)) ∧ w'.cell? ⟨w.heap.size, 1, none⟩ = some (Value.int .i64 (ea)) ∧ w'.cell? ⟨w.heap.size, 2, none⟩ = some (Value.int .u64 (wd 0 (sa))) ∧ w'.cell? ⟨w.heap.size, 3, none⟩ = some (Value.int .u64 (wd 1 (sa))) ∧ w'.cell? ⟨w.heap.size, 4, none⟩ = some (Value.int .u64 (wd 2 (sa))) ∧ w'.cell? ⟨w.heap.size, 5, none⟩ = some (Value.int .u64 (wd 3 (sa))) ∧ w'.cell? ⟨w.heap.size, 6, none⟩ = some (Value.bool (false))) ∧ (w'.cell? ⟨w.heap.size + 1, 0, none⟩ = some (Value.bool (nb)) ∧ w'.cell? ⟨w.heap.size + 1, 1, none⟩ = some (Value.int .i64 (eb)) ∧ w'.cell? ⟨w.heap.size + 1, 2, none⟩ = some (Value.int .u64 (wd 0 (sb))) ∧ w'.cell? ⟨w.heap.size + 1, 3, none⟩ = some (Value.int .u64 (wd 1 (sb))) ∧ w'.cell? ⟨w.heap.size + 1, 4, none⟩ = some (Value.int .u64 (wd 2 (sb))) ∧ w'.cell? ⟨w.heap.size + 1, 5, none⟩ = some (Value.int .u64 (wd 3 (sb))) ∧ w'.cell? ⟨w.heap.size + 1, 6, none⟩ = some (Value.bool (false))))
      (first
        | exact ⟨hP2.1.1, hP2.2.1.1⟩
        | exact ⟨hP1.1.1, hP1.2.1.1⟩
        | exact ⟨hP.1.1, hP.2.1.1⟩
        | go_keep)
      (first
        | (go_at_call_of 55 (Value.int IntKind.u64 (wd 0 sa)); refine (La.out _).mono ?_; rintro e w1 ⟨rfl, hb1⟩; have hP1 : PB w na ea sa false nb eb sb false w1 := PB.call (by first | exact hP.drew | exact hP) hb1)
        | (go_at_call_of 55 (Value.int IntKind.u64 (wd 0 sb)); refine (Lb.out _).mono ?_; rintro e w2 ⟨rfl, hb2⟩; have hP2 : PB w na ea sa false nb eb sb false w2 := PB.call (by first | exact hP1.drew | exact hP1) hb2))
    all_goals (go_wp2_with fail; go_meet; exact ⟨rfl, by first | exact hP2.drew | exact hP2⟩)
  case rest =>
    obtain ⟨rfl, hP⟩ := hcut
    clear La Lb za zb hta htb
    go_upto_if 31 with (fail)
    go_cut [] (PB w n1 e1 s1 false n2 e2 s2 false)
    case first =>
      obtain ⟨p0, p1, p2, pB⟩ := hP
      have p0' := p0
      have p1' := p1
      obtain ⟨⟨x0, x1, x2, x3, x4, x5, x6⟩, xf0, xf1, xf2, xf3, xf4, xf5, xf6⟩ := p0'
      obtain ⟨⟨y0, y1, y2, y3, y4, y5, y6⟩, yf0, yf1, yf2, yf3, yf4, yf5, yf6⟩ := p1'
      rcases hsw.out with ⟨h, rfl, rfl, rfl, rfl, rfl, rfl⟩ | ⟨h, rfl, rfl, rfl, rfl, rfl, rfl⟩
      · clear hsw hB
        go_wp2_with fail
        go_meet
        refine ⟨(p0.put _ _ _ _).farP (by omega) _ _ _ _ _ _ _, (p1.farP (by omega) _ _ _ _ _ _ _).put _ _ _ _, (p2.farP (by omega) _ _ _ _ _ _ _).farP (by omega) _ _ _ _ _ _ _, ?_⟩
        repeat' (first | with_reducible exact Below.refl _ _ | with_reducible assumption | with_reducible refine Below.drew ?_ | with_reducible refine bdrewN ?_ _ | with_reducible refine Below.alloc ?_ ?_ _ | with_reducible refine Below.setCell ?_ ?_ _ | with_reducible refine Below.trans ?_ (Below.mono (by assumption) ?_) | omega | (simp; done) | (simp; omega))
      · clear hsw hB
        go_wp2_with fail
        go_meet
        exact ⟨p0, p1, p2, pB⟩
    case rest =>
      replace hP := hcut
      clear hcut hsw
      have L1 := Lib.hid (fun W => Len_any s1 hs1 W)
      have S1 := Lib.hid (fun W => Shl_any s1 hs1 k (by omega) (by omega) W)
      rw [Int.toNat_natCast, hA] at S1
      have q0 := hP.1
      obtain ⟨⟨x0, x1, x2, x3, x4, x5, x6⟩, xf0, xf1, xf2, xf3, xf4, xf5, xf6⟩ := q0
      go_upto_region 9 with (go_at_call 55; refine (L1.out _).mono ?_; rintro e w3 ⟨rfl, hb3⟩)
      replace hP := hP.call hb3
      clear hb3 x0 x1 x2 x3 x4 x5 x6 xf0 xf1 xf2 xf3 xf4 xf5 xf6
      have q0 := hP.1
      obtain ⟨⟨x0, x1, x2, x3, x4, x5, x6⟩, xf0, xf1, xf2, xf3, xf4, xf5, xf6⟩ := q0
      simp only [hk]
      go_cut [] (PB w n1 E A false n2 e2 s2 false)
      case first =>
        clear hB
        go_region_with (go_at_call 48; refine (S1.out _).mono ?_; rintro e w4 ⟨rfl, hb4⟩; have hP4 : PB w n1 e1 s1 false n2 e2 s2 false w4 := PB.call (by first | exact hP.drew | exact hP) hb4; have r0 := hP4.1; obtain ⟨⟨z0, z1, z2, z3, z4, z5, z6⟩, zf0, zf1, zf2, zf3, zf4, zf5, zf6⟩ := r0)
        all_goals
          go_wp2_with fail
          go_meet
          refine ⟨(hP4.1.setS A).setE E, (hP4.2.1.farS (by omega) _ _ _ _).far (p := ⟨_, _, _⟩) (by show w.heap.size ≠ w.heap.size + 1; omega) _, (hP4.2.2.1.farS (by omega) _ _ _ _).far (p := ⟨_, _, _⟩) (by show w.heap.size ≠ w.heap.size + 1 + 1; omega) _, ?_⟩
          have pB := hP4.2.2.2
          repeat' (first | with_reducible exact Below.refl _ _ | with_reducible assumption | with_reducible refine Below.drew ?_ | with_reducible refine bdrewN ?_ _ | with_reducible refine Below.alloc ?_ ?_ _ | with_reducible refine Below.setCell ?_ ?_ _ | with_reducible refine Below.trans ?_ (Below.mono (by assumption) ?_) | omega | (simp; done) | (simp; omega))
      case rest =>
        replace hP := hcut
        clear hcut x0 x1 x2 x3 x4 x5 x6 xf0 xf1 xf2 xf3 xf4 xf5 xf6 L1 S1
        have q0 := hP.1
        have q1 := hP.2.1
        obtain ⟨⟨x0, x1, x2, x3, x4, x5, x6⟩, xf0, xf1, xf2, xf3, xf4, xf5, xf6⟩ := q0
        obtain ⟨⟨y0, y1, y2, y3, y4, y5, y6⟩, yf0, yf1, yf2, yf3, yf4, yf5, yf6⟩ := q1
        go_upto_if 54 with (fail)
        simp only [hD]
        go_cut [6] (fun s wx => s = .bool lf ∧ PB w n1 E A false n2 e2 B false wx)
        case first =>
          rcases hB.out with ⟨h0, h1, h2⟩ | ⟨h0, h1, h2, h3, h4⟩
          · have S2 := Lib.hid (fun W => Shr_any s2 hs2 D (by omega) W)
            rw [← h1, ← h2] at S2
            clear hB h1 h2
            go_wp2_with fail
            refine (S2.out _).mono ?_
            rintro e w4 ⟨rfl, hb4⟩
            have hP4 := hP.call hb4
            have r1 := hP4.2.1
            obtain ⟨⟨z0, z1, z2, z3, z4, z5, z6⟩, zf0, zf1, zf2, zf3, zf4, zf5, zf6⟩ := r1
            go_wp2_with fail
            go_meet
            refine ⟨rfl, hP4.1.farS (by omega) _ _ _ _, hP4.2.1.setS B, hP4.2.2.1.farS (by omega) _ _ _ _, ?_⟩
            have pB := hP4.2.2.2
            repeat' (first | with_reducible exact Below.refl _ _ | with_reducible assumption | with_reducible refine Below.drew ?_ | with_reducible refine bdrewN ?_ _ | with_reducible refine Below.alloc ?_ ?_ _ | with_reducible refine Below.setCell ?_ ?_ _ | with_reducible refine Below.trans ?_ (Below.mono (by assumption) ?_) | omega | (simp; done) | (simp; omega))
          · have S2 := Lib.hid (fun W => Shl_any s2 hs2 nD h1 (by omega) W)
            rw [← h3] at S2
            subst h4
            clear hB h3
            go_wp2_with fail
            refine (S2.out _).mono ?_
            rintro e w4 ⟨rfl, hb4⟩
            have hP4 := hP.call hb4
            have r1 := hP4.2.1
            obtain ⟨⟨z0, z1, z2, z3, z4, z5, z6⟩, zf0, zf1, zf2, zf3, zf4, zf5, zf6⟩ := r1
            go_wp2_with fail
            go_meet
            refine ⟨rfl, hP4.1.farS (by omega) _ _ _ _, hP4.2.1.setS B, hP4.2.2.1.farS (by omega) _ _ _ _, ?_⟩
            have pB := hP4.2.2.2
            repeat' (first | with_reducible exact Below.refl _ _ | with_reducible assumption | with_reducible refine Below.drew ?_ | with_reducible refine bdrewN ?_ _ | with_reducible refine Below.alloc ?_ ?_ _ | with_reducible refine Below.setCell ?_ ?_ _ | with_reducible refine Below.trans ?_ (Below.mono (by assumption) ?_) | omega | (simp; done) | (simp; omega))
        case rest =>
          obtain ⟨rfl, hP⟩ := hcut
          clear hB hD hnD hE hk x0 x1 x2 x3 x4 x5 x6 xf0 xf1 xf2 xf3 xf4 xf5 xf6 y0 y1 y2 y3 y4 y5 y6 yf0 yf1 yf2 yf3 yf4 yf5 yf6
          have q0 := hP.1
          have q1 := hP.2.1
          have q2 := hP.2.2.1
          obtain ⟨⟨x0, x1, x2, x3, x4, x5, x6⟩, xf0, xf1, xf2, xf3, xf4, xf5, xf6⟩ := q0
          obtain ⟨⟨y0, y1, y2, y3, y4, y5, y6⟩, yf0, yf1, yf2, yf3, yf4, yf5, yf6⟩ := q1
          obtain ⟨⟨v0, v1, v2, v3, v4, v5, v6⟩, vf0, vf1, vf2, vf3, vf4, vf5, vf6⟩ := q2
          by_cases hn : n1 = n2
          · subst hn
            rcases hR.out with ⟨_, uAB, rfl, rfl, rfl⟩ | ⟨h, _⟩ | ⟨h, _⟩ | ⟨h, _⟩
            · have AD := Lib.hid (fun W => Add_any A B uA uB uAB W)
              clear hR uAB
              go_wp2_with fail
              refine (AD.out _).mono ?_
              rintro e w5 ⟨rfl, hb5⟩
              have hP5 := hP.call hb5
              clear hb5 x0 x1 x2 x3 x4 x5 x6 xf0 xf1 xf2 xf3 xf4 xf5 xf6 y0 y1 y2 y3 y4 y5 y6 yf0 yf1 yf2 yf3 yf4 yf5 yf6 v0 v1 v2 v3 v4 v5 v6 vf0 vf1 vf2 vf3 vf4 vf5 vf6 hP
              have r0 := hP5.1
              have r2 := hP5.2.2.1
              obtain ⟨⟨z0, z1, z2, z3, z4, z5, z6⟩, zf0, zf1, zf2, zf3, zf4, zf5, zf6⟩ := r0
              obtain ⟨⟨t0, t1, t2, t3, t4, t5, t6⟩, tf0, tf1, tf2, tf3, tf4, tf5, tf6⟩ := r2
              go_simp
              repeat (any_goals (first | go_values | go_skip | go_guarded | go_step | go_upon))
              refine bodyPost_ret (v := NV nr E (A + B) lr) (by simp [results, Tryd.results51, go_sem, *]) rfl ⟨rfl, ?_⟩
              have pB := hP5.2.2.2
              exact bput7 (bput1 (bput4 pB (Nat.le_refl _) _ _ _ _) (Nat.le_refl _) _ _) (by omega) _ _ _ _ _ _ _
            · exact absurd rfl h
            · exact absurd rfl h
            · exact absurd rfl h
          · have hne : (n1 == n2) = false := by rw [beq_eq_false_iff_ne]; exact hn
            have LS := Lib.hid (fun W => Less_any A B uA uB W)
            rcases hR.out with ⟨h, _⟩ | ⟨_, hlt, rfl, rfl, rfl⟩ | ⟨_, hlt, rfl, rfl, rfl, rfl⟩ | ⟨_, hlt, rfl, rfl, rfl, rfl⟩
            · exact absurd h hn
            · rw [decide_eq_true hlt] at LS
              have SB := Lib.hid (fun W => Sub_any B A uB uA W)
              clear hR hn hlt
              go_wp2_with fail
              refine (LS.out _).mono ?_
              rintro e w5 ⟨rfl, hb5⟩
              have hP5 := hP.call hb5
              clear hb5 x0 x1 x2 x3 x4 x5 x6 xf0 xf1 xf2 xf3 xf4 xf5 xf6 y0 y1 y2 y3 y4 y5 y6 yf0 yf1 yf2 yf3 yf4 yf5 yf6 v0 v1 v2 v3 v4 v5 v6 vf0 vf1 vf2 vf3 vf4 vf5 vf6 hP
              have r0 := hP5.1
              have r1 := hP5.2.1
              obtain ⟨⟨z0, z1, z2, z3, z4, z5, z6⟩, zf0, zf1, zf2, zf3, zf4, zf5, zf6⟩ := r0
              obtain ⟨⟨t0, t1, t2, t3, t4, t5, t6⟩, tf0, tf1, tf2, tf3, tf4, tf5, tf6⟩ := r1
              go_wp2_with fail
              refine (SB.out _).mono ?_
              rintro e w6 ⟨rfl, hb6⟩
              have hP6 := hP5.call hb6
              clear hb6 z0 z1 z2 z3 z4 z5 z6 zf0 zf1 zf2 zf3 zf4 zf5 zf6 t0 t1 t2 t3 t4 t5 t6 tf0 tf1 tf2 tf3 tf4 tf5 tf6 hP5
              have r0 := hP6.1
              have r1 := hP6.2.1
              have r2 := hP6.2.2.1
              obtain ⟨⟨a0, a1, a2, a3, a4, a5, a6⟩, af0, af1, af2, af3, af4, af5, af6⟩ := r0
              obtain ⟨⟨b0, b1, b2, b3, b4, b5, b6⟩, bf0, bf1, bf2, bf3, bf4, bf5, bf6⟩ := r1
              obtain ⟨⟨c0, c1, c2, c3, c4, c5, c6⟩, cf0, cf1, cf2, cf3, cf4, cf5, cf6⟩ := r2
              go_simp
              repeat (any_goals (first | go_values | go_skip | go_guarded | go_step | go_upon))
              refine bodyPost_ret (v := NV nr E (subN B A) false) (by simp [results, Tryd.results51, go_sem, *]) rfl ⟨rfl, ?_⟩
              have pB := hP6.2.2.2
              exact bput7 (bput1 (bput4 pB (Nat.le_refl _) _ _ _ _) (Nat.le_refl _) _ _) (by omega) _ _ _ _ _ _ _
            · rw [decide_eq_false hlt] at LS
              have SB := Lib.hid (fun W => Sub_any A B uA uB W)
              have SC := Lib.hid (fun W => Sub_one (subN A B) (subN_u256 _ _) W)
              clear hR hn hlt
              go_wp2_with fail
              refine (LS.out _).mono ?_
              rintro e w5 ⟨rfl, hb5⟩
              have hP5 := hP.call hb5
              clear hb5 x0 x1 x2 x3 x4 x5 x6 xf0 xf1 xf2 xf3 xf4 xf5 xf6 y0 y1 y2 y3 y4 y5 y6 yf0 yf1 yf2 yf3 yf4 yf5 yf6 v0 v1 v2 v3 v4 v5 v6 vf0 vf1 vf2 vf3 vf4 vf5 vf6 hP
              have r0 := hP5.1
              have r1 := hP5.2.1
              obtain ⟨⟨z0, z1, z2, z3, z4, z5, z6⟩, zf0, zf1, zf2, zf3, zf4, zf5, zf6⟩ := r0
              obtain ⟨⟨t0, t1, t2, t3, t4, t5, t6⟩, tf0, tf1, tf2, tf3, tf4, tf5, tf6⟩ := r1
              go_wp2_with fail
              refine (SB.out _).mono ?_
              rintro e w6 ⟨rfl, hb6⟩
              have hP6 := hP5.call hb6
              clear hb6 z0 z1 z2 z3 z4 z5 z6 zf0 zf1 zf2 zf3 zf4 zf5 zf6 t0 t1 t2 t3 t4 t5 t6 tf0 tf1 tf2 tf3 tf4 tf5 tf6 hP5
              have r0 := hP6.1
              obtain ⟨⟨a0, a1, a2, a3, a4, a5, a6⟩, af0, af1, af2, af3, af4, af5, af6⟩ := r0
              go_wp2_with fail
              refine (SC.out _).mono ?_
              rintro e w7 ⟨rfl, hb7⟩
              have hP7 := (show PB w nr E (subN A B) false n2 e2 B false _ from ⟨hP6.1.setS _, hP6.2.1.farS (by omega) _ _ _ _, hP6.2.2.1.farS (by omega) _ _ _ _, (((hP6.2.2.2.setCell (p := ⟨_, _, _⟩) (Nat.le_refl _) _).setCell (p := ⟨_, _, _⟩) (Nat.le_refl _) _).setCell (p := ⟨_, _, _⟩) (Nat.le_refl _) _).setCell (p := ⟨_, _, _⟩) (Nat.le_refl _) _⟩).call hb7
              have r0 := hP7.1
              have r2 := hP7.2.2.1
              obtain ⟨⟨b0, b1, b2, b3, b4, b5, b6⟩, bf0, bf1, bf2, bf3, bf4, bf5, bf6⟩ := r0
              obtain ⟨⟨c0, c1, c2, c3, c4, c5, c6⟩, cf0, cf1, cf2, cf3, cf4, cf5, cf6⟩ := r2
              go_simp
              repeat (any_goals (first | go_values | go_skip | go_guarded | go_step | go_upon))
              refine bodyPost_ret (v := NV nr E (subN (subN A B) 1) true) (by simp [results, Tryd.results51, go_sem, *]) rfl ⟨rfl, ?_⟩
              have pB := hP7.2.2.2
              exact bput7 (bput1 (bput4 pB (Nat.le_refl _) _ _ _ _) (Nat.le_refl _) _ _) (by omega) _ _ _ _ _ _ _
            · rw [decide_eq_false hlt] at LS
              have SB := Lib.hid (fun W => Sub_any A B uA uB W)
              clear hR hn hlt
              go_wp2_with fail
              refine (LS.out _).mono ?_
              rintro e w5 ⟨rfl, hb5⟩
              have hP5 := hP.call hb5
              clear hb5 x0 x1 x2 x3 x4 x5 x6 xf0 xf1 xf2 xf3 xf4 xf5 xf6 y0 y1 y2 y3 y4 y5 y6 yf0 yf1 yf2 yf3 yf4 yf5 yf6 v0 v1 v2 v3 v4 v5 v6 vf0 vf1 vf2 vf3 vf4 vf5 vf6 hP
              have r0 := hP5.1
              have r1 := hP5.2.1
              obtain ⟨⟨z0, z1, z2, z3, z4, z5, z6⟩, zf0, zf1, zf2, zf3, zf4, zf5, zf6⟩ := r0
              obtain ⟨⟨t0, t1, t2, t3, t4, t5, t6⟩, tf0, tf1, tf2, tf3, tf4, tf5, tf6⟩ := r1
              go_wp2_with fail
              refine (SB.out _).mono ?_
              rintro e w6 ⟨rfl, hb6⟩
              have hP6 := hP5.call hb6
              clear hb6 z0 z1 z2 z3 z4 z5 z6 zf0 zf1 zf2 zf3 zf4 zf5 zf6 t0 t1 t2 t3 t4 t5 t6 tf0 tf1 tf2 tf3 tf4 tf5 tf6 hP5
              have r0 := hP6.1
              have r2 := hP6.2.2.1
              obtain ⟨⟨a0, a1, a2, a3, a4, a5, a6⟩, af0, af1, af2, af3, af4, af5, af6⟩ := r0
              obtain ⟨⟨c0, c1, c2, c3, c4, c5, c6⟩, cf0, cf1, cf2, cf3, cf4, cf5, cf6⟩ := r2
              go_simp
              repeat (any_goals (first | go_values | go_skip | go_guarded | go_step | go_upon))
              refine bodyPost_ret (v := NV nr E (subN A B) false) (by simp [results, Tryd.results51, go_sem, *]) rfl ⟨rfl, ?_⟩
              have pB := hP6.2.2.2
              exact bput7 (bput4 pB (Nat.le_refl _) _ _ _ _) (by omega) _ _ _ _ _ _ _
end Go.Proofs.YtldmbneckcjonabDoor
namespace Go.Proofs.YtldmbneckcjonabDoor
theorem plusA_bl {a : Nat} (ha : a ≠ 0) (la : bl a ≤ 200) : bl (a * 2 ^ (250 - bl a)) = 250 := by rw [bl_shift ha]; omega
theorem plusB_bl {a b : Nat} {e1 e2 : Int} (la : bl a ≤ 200) (lb : bl b ≤ 200) (h : e2 + (bl b : Int) ≤ e1 + bl a) : bl (plusB b e2 (e1 - (250 - bl a : Nat))) ≤ 250 ∧ (plusL b e2 (e1 - (250 - bl a : Nat)) = true → bl (plusB b e2 (e1 - (250 - bl a : Nat))) ≤ 200) := by
  unfold plusB plusL
  by_cases hd : 0 < e1 - ((250 - bl a : Nat) : Int) - e2
  · rw [if_pos hd, if_pos hd]
    have := bl_mono (Nat.div_le_self b (2 ^ (e1 - ((250 - bl a : Nat) : Int) - e2).toNat))
    exact ⟨by omega, fun _ => by omega⟩
  · rw [if_neg hd, if_neg hd]
    refine ⟨?_, fun h => by cases h⟩
    by_cases hb : b = 0
    · rw [hb, Nat.zero_mul, bl_zero]; omega
    · rw [bl_shift hb]; omega
theorem plusH_bl {n1 n2 l : Bool} {A B : Nat} {E : Int} (hA : bl A = 250) (hB : bl B ≤ 250) : bl (plusH n1 n2 A B E l).2.2.1 ≤ 251 ∧ (plusH n1 n2 A B E l).2.1 = E := by
  have h1 : bl (A + B) ≤ 251 := by
    rw [bl_le]
    have hA2 := bl_le.1 (Nat.le_of_eq hA)
    have hB2 := bl_le.1 hB
    have : (2 : Nat) ^ 251 = 2 ^ 250 + 2 ^ 250 := by decide
    omega
  have h2 := bl_mono (Nat.sub_le B A)
  have h3 := bl_mono (Nat.sub_le A B)
  have h4 : bl (A - B - 1) ≤ bl A := bl_mono (Nat.le_trans (Nat.sub_le _ _) (Nat.sub_le _ _))
  unfold plusH
  split
  · exact ⟨h1, rfl⟩
  · split
    · exact ⟨by show bl (B - A) ≤ 251; omega, rfl⟩
    · split
      · exact ⟨by show bl (A - B - 1) ≤ 251; omega, rfl⟩
      · exact ⟨by show bl (A - B) ≤ 251; omega, rfl⟩
theorem plusP_bl {n1 n2 : Bool} {a b : Nat} {e1 e2 : Int} (la : bl a ≤ 200) (lb : bl b ≤ 200) (h2 : e1 ≤ 4000) (h4 : e2 ≤ 4000) : bl (plusP n1 n2 a b e1 e2).2.2.1 ≤ 251 ∧ (plusP n1 n2 a b e1 e2).2.1 ≤ 4000 := by
  unfold plusP
  split
  · exact ⟨by show bl b ≤ 251; omega, h4⟩
  · rename_i ha
    split
    · exact ⟨by show bl a ≤ 251; omega, h2⟩
    · rename_i hb
      split
      · rename_i hl
        unfold plusG
        obtain ⟨c1, c2⟩ := plusH_bl (n1 := n2) (n2 := n1) (l := plusL a e1 (e2 - (250 - bl b : Nat))) (E := e2 - (250 - bl b : Nat)) (plusA_bl hb lb) (plusB_bl (e1 := e2) (e2 := e1) lb la (by omega)).1
        exact ⟨c1, by rw [c2]; omega⟩
      · rename_i hl
        unfold plusG
        obtain ⟨c1, c2⟩ := plusH_bl (n1 := n1) (n2 := n2) (l := plusL b e2 (e1 - (250 - bl a : Nat))) (E := e1 - (250 - bl a : Nat)) (plusA_bl ha la) (plusB_bl (e1 := e1) (e2 := e2) la lb (by omega)).1
        exact ⟨c1, by rw [c2]; omega⟩
theorem u256_of_bl {n : Nat} (h : bl n ≤ 256) : U256 n := bl_le.1 h
end Go.Proofs.YtldmbneckcjonabDoor
namespace Go.Proofs.YtldmbneckcjonabDoor
open Go.RowKit
attribute [local go_sem] two_run eqW0_run
set_option maxRecDepth 100000 in
set_option maxHeartbeats 1000000 in
theorem summed_A (na nb nr lr : Bool) (ea eb E : Int) (sa sb sr m : Nat) (hsr : U256 sr) (P : Hid (∀ W, Calls Tryd.prog 51 #[NV na ea sa false, NV nb eb sb false] W fun e w' => e = .returned (NV nr E sr lr) ∧ Below W.heap.size W w')) (zr : decide (sr = 0) = false) (bt fl : Nat) (R : Hid (∀ W, Calls Tryd.prog 46 #[NV nr E sr lr, .int .u8 m] W (SoftOut bt fl false W))) (w : World) :
    Calls Tryd.prog 43 #[NV na ea sa false, NV nb eb sb false, .int .u8 m] w (SoftOut bt fl false w) := by
  go_enter Tryd.func43, Tryd.ntmps43
  go_wp2_with fail
  refine (P.out _).mono ?_
  rintro e w1 ⟨rfl, hb1⟩; have hz_w1 := (hb1).size; (try simp at hz_w1); have hl_w1_0 : w.heap.size < w1.heap.size := (by omega); have hl_w1_1 : w.heap.size + 1 < w1.heap.size := (by omega); have hl_w1_2 : w.heap.size + 1 + 1 < w1.heap.size := (by omega); have hk_w1_0_0 : w1.cell? ⟨w.heap.size + 1 + 1, 0, none⟩ = some (.int .u64 0) := (by rw [hb1.cell (p := ⟨w.heap.size + 1 + 1, 0, none⟩) (by first | omega | (simp; done) | (simp; omega))]; go_simp; done); have hg_w1_0_0 : w1.frozen? ⟨w.heap.size + 1 + 1, 0, none⟩ = false := (by rw [hb1.frozen (p := ⟨w.heap.size + 1 + 1, 0, none⟩) (by first | omega | (simp; done) | (simp; omega))]; go_simp; done); have hk_w1_0_1 : w1.cell? ⟨w.heap.size + 1 + 1, 1, none⟩ = some (.int .u8 0) := (by rw [hb1.cell (p := ⟨w.heap.size + 1 + 1, 1, none⟩) (by first | omega | (simp; done) | (simp; omega))]; go_simp; done); have hg_w1_0_1 : w1.frozen? ⟨w.heap.size + 1 + 1, 1, none⟩ = false := (by rw [hb1.frozen (p := ⟨w.heap.size + 1 + 1, 1, none⟩) (by first | omega | (simp; done) | (simp; omega))]; go_simp; done); have hk_w1_0_2 : w1.cell? ⟨w.heap.size + 1 + 1, 2, none⟩ = some (.bool false) := (by rw [hb1.cell (p := ⟨w.heap.size + 1 + 1, 2, none⟩) (by first | omega | (simp; done) | (simp; omega))]; go_simp; done); have hg_w1_0_2 : w1.frozen? ⟨w.heap.size + 1 + 1, 2, none⟩ = false := (by rw [hb1.frozen (p := ⟨w.heap.size + 1 + 1, 2, none⟩) (by first | omega | (simp; done) | (simp; omega))]; go_simp; done)
  go_wp2_with fail
  refine (R.out _).mono ?_
  rintro e w2 ⟨rfl, hb2⟩; have hz_w2 := (hb2).size; (try simp at hz_w2); have hl_w2_0 : w.heap.size < w2.heap.size := (by omega); have hl_w2_1 : w.heap.size + 1 < w2.heap.size := (by omega); have hl_w2_2 : w.heap.size + 1 + 1 < w2.heap.size := (by omega); have hk_w2_0_0 : w2.cell? ⟨w.heap.size + 1 + 1, 0, none⟩ = some (.int .u64 0) := (by rw [hb2.cell (p := ⟨w.heap.size + 1 + 1, 0, none⟩) (by first | omega | (simp; done) | (simp; omega))]; go_simp; done); have hg_w2_0_0 : w2.frozen? ⟨w.heap.size + 1 + 1, 0, none⟩ = false := (by rw [hb2.frozen (p := ⟨w.heap.size + 1 + 1, 0, none⟩) (by first | omega | (simp; done) | (simp; omega))]; go_simp; done); have hk_w2_0_1 : w2.cell? ⟨w.heap.size + 1 + 1, 1, none⟩ = some (.int .u8 0) := (by rw [hb2.cell (p := ⟨w.heap.size + 1 + 1, 1, none⟩) (by first | omega | (simp; done) | (simp; omega))]; go_simp; done); have hg_w2_0_1 : w2.frozen? ⟨w.heap.size + 1 + 1, 1, none⟩ = false := (by rw [hb2.frozen (p := ⟨w.heap.size + 1 + 1, 1, none⟩) (by first | omega | (simp; done) | (simp; omega))]; go_simp; done); have hk_w2_0_2 : w2.cell? ⟨w.heap.size + 1 + 1, 2, none⟩ = some (.bool false) := (by rw [hb2.cell (p := ⟨w.heap.size + 1 + 1, 2, none⟩) (by first | omega | (simp; done) | (simp; omega))]; go_simp; done); have hg_w2_0_2 : w2.frozen? ⟨w.heap.size + 1 + 1, 2, none⟩ = false := (by rw [hb2.frozen (p := ⟨w.heap.size + 1 + 1, 2, none⟩) (by first | omega | (simp; done) | (simp; omega))]; go_simp; done)
  go_wp2_with fail
  refine bodyPost_ret (v := RES1 bt fl false) (by simp [results, Tryd.results43, go_sem, *]) rfl ⟨rfl, ?_⟩
  repeat' (first | with_reducible exact Below.refl _ _ | with_reducible assumption | with_reducible refine Below.drew ?_ | with_reducible refine bdrewN ?_ _ | with_reducible refine Below.alloc ?_ ?_ _ | with_reducible refine Below.setCell ?_ ?_ _ | with_reducible refine Below.trans ?_ (Below.mono (by assumption) ?_) | omega | (simp; done) | (simp; omega))
set_option maxRecDepth 100000 in
set_option maxHeartbeats 1000000 in
theorem summed_B0 (na nb nr lr : Bool) (ea eb E : Int) (sa sb sr m : Nat) (hsr : U256 sr) (P : Hid (∀ W, Calls Tryd.prog 51 #[NV na ea sa false, NV nb eb sb false] W fun e w' => e = .returned (NV nr E sr lr) ∧ Below W.heap.size W w')) (zr : decide (sr = 0) = true) (hl : lr = false) (hsa : U256 sa) (hsb : U256 sb) (za : decide (sa = 0) = true) (zb : decide (sb = 0) = true) (hn : (na == nb) = true) (w : World) :
    Calls Tryd.prog 43 #[NV na ea sa false, NV nb eb sb false, .int .u8 m] w (SoftOut (signN na) 0 false w) := by
  subst hl
  go_enter Tryd.func43, Tryd.ntmps43
  go_wp2_with fail
  refine (P.out _).mono ?_
  rintro e w1 ⟨rfl, hb1⟩; have hz_w1 := (hb1).size; (try simp at hz_w1); have hl_w1_0 : w.heap.size < w1.heap.size := (by omega); have hl_w1_1 : w.heap.size + 1 < w1.heap.size := (by omega); have hl_w1_2 : w.heap.size + 1 + 1 < w1.heap.size := (by omega); have hk_w1_0_0 : w1.cell? ⟨w.heap.size + 1 + 1, 0, none⟩ = some (.int .u64 0) := (by rw [hb1.cell (p := ⟨w.heap.size + 1 + 1, 0, none⟩) (by first | omega | (simp; done) | (simp; omega))]; go_simp; done); have hg_w1_0_0 : w1.frozen? ⟨w.heap.size + 1 + 1, 0, none⟩ = false := (by rw [hb1.frozen (p := ⟨w.heap.size + 1 + 1, 0, none⟩) (by first | omega | (simp; done) | (simp; omega))]; go_simp; done); have hk_w1_0_1 : w1.cell? ⟨w.heap.size + 1 + 1, 1, none⟩ = some (.int .u8 0) := (by rw [hb1.cell (p := ⟨w.heap.size + 1 + 1, 1, none⟩) (by first | omega | (simp; done) | (simp; omega))]; go_simp; done); have hg_w1_0_1 : w1.frozen? ⟨w.heap.size + 1 + 1, 1, none⟩ = false := (by rw [hb1.frozen (p := ⟨w.heap.size + 1 + 1, 1, none⟩) (by first | omega | (simp; done) | (simp; omega))]; go_simp; done); have hk_w1_0_2 : w1.cell? ⟨w.heap.size + 1 + 1, 2, none⟩ = some (.bool false) := (by rw [hb1.cell (p := ⟨w.heap.size + 1 + 1, 2, none⟩) (by first | omega | (simp; done) | (simp; omega))]; go_simp; done); have hg_w1_0_2 : w1.frozen? ⟨w.heap.size + 1 + 1, 2, none⟩ = false := (by rw [hb1.frozen (p := ⟨w.heap.size + 1 + 1, 2, none⟩) (by first | omega | (simp; done) | (simp; omega))]; go_simp; done); have hk_w1_1_0 : w1.cell? ⟨w.heap.size, 0, none⟩ = some (.bool na) := (by rw [hb1.cell (p := ⟨w.heap.size, 0, none⟩) (by first | omega | (simp; done) | (simp; omega))]; go_simp; done); have hk_w1_1_1 : w1.cell? ⟨w.heap.size, 1, none⟩ = some (.int .i64 ea) := (by rw [hb1.cell (p := ⟨w.heap.size, 1, none⟩) (by first | omega | (simp; done) | (simp; omega))]; go_simp; done); have hk_w1_1_2 : w1.cell? ⟨w.heap.size, 2, none⟩ = some (.int .u64 (wd 0 sa)) := (by rw [hb1.cell (p := ⟨w.heap.size, 2, none⟩) (by first | omega | (simp; done) | (simp; omega))]; go_simp; done); have hk_w1_1_3 : w1.cell? ⟨w.heap.size, 3, none⟩ = some (.int .u64 (wd 1 sa)) := (by rw [hb1.cell (p := ⟨w.heap.size, 3, none⟩) (by first | omega | (simp; done) | (simp; omega))]; go_simp; done); have hk_w1_1_4 : w1.cell? ⟨w.heap.size, 4, none⟩ = some (.int .u64 (wd 2 sa)) := (by rw [hb1.cell (p := ⟨w.heap.size, 4, none⟩) (by first | omega | (simp; done) | (simp; omega))]; go_simp; done); have hk_w1_1_5 : w1.cell? ⟨w.heap.size, 5, none⟩ = some (.int .u64 (wd 3 sa)) := (by rw [hb1.cell (p := ⟨w.heap.size, 5, none⟩) (by first | omega | (simp; done) | (simp; omega))]; go_simp; done); have hk_w1_1_6 : w1.cell? ⟨w.heap.size, 6, none⟩ = some (.bool false) := (by rw [hb1.cell (p := ⟨w.heap.size, 6, none⟩) (by first | omega | (simp; done) | (simp; omega))]; go_simp; done); have hk_w1_2_0 : w1.cell? ⟨w.heap.size + 1, 0, none⟩ = some (.bool nb) := (by rw [hb1.cell (p := ⟨w.heap.size + 1, 0, none⟩) (by first | omega | (simp; done) | (simp; omega))]; go_simp; done); have hk_w1_2_1 : w1.cell? ⟨w.heap.size + 1, 1, none⟩ = some (.int .i64 eb) := (by rw [hb1.cell (p := ⟨w.heap.size + 1, 1, none⟩) (by first | omega | (simp; done) | (simp; omega))]; go_simp; done); have hk_w1_2_2 : w1.cell? ⟨w.heap.size + 1, 2, none⟩ = some (.int .u64 (wd 0 sb)) := (by rw [hb1.cell (p := ⟨w.heap.size + 1, 2, none⟩) (by first | omega | (simp; done) | (simp; omega))]; go_simp; done); have hk_w1_2_3 : w1.cell? ⟨w.heap.size + 1, 3, none⟩ = some (.int .u64 (wd 1 sb)) := (by rw [hb1.cell (p := ⟨w.heap.size + 1, 3, none⟩) (by first | omega | (simp; done) | (simp; omega))]; go_simp; done); have hk_w1_2_4 : w1.cell? ⟨w.heap.size + 1, 4, none⟩ = some (.int .u64 (wd 2 sb)) := (by rw [hb1.cell (p := ⟨w.heap.size + 1, 4, none⟩) (by first | omega | (simp; done) | (simp; omega))]; go_simp; done); have hk_w1_2_5 : w1.cell? ⟨w.heap.size + 1, 5, none⟩ = some (.int .u64 (wd 3 sb)) := (by rw [hb1.cell (p := ⟨w.heap.size + 1, 5, none⟩) (by first | omega | (simp; done) | (simp; omega))]; go_simp; done); have hk_w1_2_6 : w1.cell? ⟨w.heap.size + 1, 6, none⟩ = some (.bool false) := (by rw [hb1.cell (p := ⟨w.heap.size + 1, 6, none⟩) (by first | omega | (simp; done) | (simp; omega))]; go_simp; done)
  go_wp2_with (go_at_call 52; refine (signed_any _ _).mono ?_; rintro e w' ⟨rfl, rfl⟩)
  refine bodyPost_ret (v := RES1 (signN na) 0 false) (by simp [results, Tryd.results43, go_sem, *]) rfl ⟨rfl, ?_⟩
  repeat' (first | with_reducible exact Below.refl _ _ | with_reducible assumption | with_reducible refine Below.drew ?_ | with_reducible refine bdrewN ?_ _ | with_reducible refine Below.alloc ?_ ?_ _ | with_reducible refine Below.setCell ?_ ?_ _ | with_reducible refine Below.trans ?_ (Below.mono (by assumption) ?_) | omega | (simp; done) | (simp; omega))
set_option maxRecDepth 100000 in
set_option maxHeartbeats 1000000 in
theorem summed_B1 (na nb nr lr : Bool) (ea eb E : Int) (sa sb sr m : Nat) (hsr : U256 sr) (P : Hid (∀ W, Calls Tryd.prog 51 #[NV na ea sa false, NV nb eb sb false] W fun e w' => e = .returned (NV nr E sr lr) ∧ Below W.heap.size W w')) (zr : decide (sr = 0) = true) (hl : lr = false) (hsa : U256 sa) (hsb : U256 sb) (za : decide (sa = 0) = false) (m4 : Bool) (hm4 : ((m : Int) == 4) = m4) (w : World) :
    Calls Tryd.prog 43 #[NV na ea sa false, NV nb eb sb false, .int .u8 m] w (SoftOut (signN m4) 0 false w) := by
  subst hl
  go_enter Tryd.func43, Tryd.ntmps43
  go_wp2_with fail
  refine (P.out _).mono ?_
  rintro e w1 ⟨rfl, hb1⟩; have hz_w1 := (hb1).size; (try simp at hz_w1); have hl_w1_0 : w.heap.size < w1.heap.size := (by omega); have hl_w1_1 : w.heap.size + 1 < w1.heap.size := (by omega); have hl_w1_2 : w.heap.size + 1 + 1 < w1.heap.size := (by omega); have hk_w1_0_0 : w1.cell? ⟨w.heap.size + 1 + 1, 0, none⟩ = some (.int .u64 0) := (by rw [hb1.cell (p := ⟨w.heap.size + 1 + 1, 0, none⟩) (by first | omega | (simp; done) | (simp; omega))]; go_simp; done); have hg_w1_0_0 : w1.frozen? ⟨w.heap.size + 1 + 1, 0, none⟩ = false := (by rw [hb1.frozen (p := ⟨w.heap.size + 1 + 1, 0, none⟩) (by first | omega | (simp; done) | (simp; omega))]; go_simp; done); have hk_w1_0_1 : w1.cell? ⟨w.heap.size + 1 + 1, 1, none⟩ = some (.int .u8 0) := (by rw [hb1.cell (p := ⟨w.heap.size + 1 + 1, 1, none⟩) (by first | omega | (simp; done) | (simp; omega))]; go_simp; done); have hg_w1_0_1 : w1.frozen? ⟨w.heap.size + 1 + 1, 1, none⟩ = false := (by rw [hb1.frozen (p := ⟨w.heap.size + 1 + 1, 1, none⟩) (by first | omega | (simp; done) | (simp; omega))]; go_simp; done); have hk_w1_0_2 : w1.cell? ⟨w.heap.size + 1 + 1, 2, none⟩ = some (.bool false) := (by rw [hb1.cell (p := ⟨w.heap.size + 1 + 1, 2, none⟩) (by first | omega | (simp; done) | (simp; omega))]; go_simp; done); have hg_w1_0_2 : w1.frozen? ⟨w.heap.size + 1 + 1, 2, none⟩ = false := (by rw [hb1.frozen (p := ⟨w.heap.size + 1 + 1, 2, none⟩) (by first | omega | (simp; done) | (simp; omega))]; go_simp; done); have hk_w1_1_0 : w1.cell? ⟨w.heap.size, 0, none⟩ = some (.bool na) := (by rw [hb1.cell (p := ⟨w.heap.size, 0, none⟩) (by first | omega | (simp; done) | (simp; omega))]; go_simp; done); have hk_w1_1_1 : w1.cell? ⟨w.heap.size, 1, none⟩ = some (.int .i64 ea) := (by rw [hb1.cell (p := ⟨w.heap.size, 1, none⟩) (by first | omega | (simp; done) | (simp; omega))]; go_simp; done); have hk_w1_1_2 : w1.cell? ⟨w.heap.size, 2, none⟩ = some (.int .u64 (wd 0 sa)) := (by rw [hb1.cell (p := ⟨w.heap.size, 2, none⟩) (by first | omega | (simp; done) | (simp; omega))]; go_simp; done); have hk_w1_1_3 : w1.cell? ⟨w.heap.size, 3, none⟩ = some (.int .u64 (wd 1 sa)) := (by rw [hb1.cell (p := ⟨w.heap.size, 3, none⟩) (by first | omega | (simp; done) | (simp; omega))]; go_simp; done); have hk_w1_1_4 : w1.cell? ⟨w.heap.size, 4, none⟩ = some (.int .u64 (wd 2 sa)) := (by rw [hb1.cell (p := ⟨w.heap.size, 4, none⟩) (by first | omega | (simp; done) | (simp; omega))]; go_simp; done); have hk_w1_1_5 : w1.cell? ⟨w.heap.size, 5, none⟩ = some (.int .u64 (wd 3 sa)) := (by rw [hb1.cell (p := ⟨w.heap.size, 5, none⟩) (by first | omega | (simp; done) | (simp; omega))]; go_simp; done); have hk_w1_1_6 : w1.cell? ⟨w.heap.size, 6, none⟩ = some (.bool false) := (by rw [hb1.cell (p := ⟨w.heap.size, 6, none⟩) (by first | omega | (simp; done) | (simp; omega))]; go_simp; done); have hk_w1_2_0 : w1.cell? ⟨w.heap.size + 1, 0, none⟩ = some (.bool nb) := (by rw [hb1.cell (p := ⟨w.heap.size + 1, 0, none⟩) (by first | omega | (simp; done) | (simp; omega))]; go_simp; done); have hk_w1_2_1 : w1.cell? ⟨w.heap.size + 1, 1, none⟩ = some (.int .i64 eb) := (by rw [hb1.cell (p := ⟨w.heap.size + 1, 1, none⟩) (by first | omega | (simp; done) | (simp; omega))]; go_simp; done); have hk_w1_2_2 : w1.cell? ⟨w.heap.size + 1, 2, none⟩ = some (.int .u64 (wd 0 sb)) := (by rw [hb1.cell (p := ⟨w.heap.size + 1, 2, none⟩) (by first | omega | (simp; done) | (simp; omega))]; go_simp; done); have hk_w1_2_3 : w1.cell? ⟨w.heap.size + 1, 3, none⟩ = some (.int .u64 (wd 1 sb)) := (by rw [hb1.cell (p := ⟨w.heap.size + 1, 3, none⟩) (by first | omega | (simp; done) | (simp; omega))]; go_simp; done); have hk_w1_2_4 : w1.cell? ⟨w.heap.size + 1, 4, none⟩ = some (.int .u64 (wd 2 sb)) := (by rw [hb1.cell (p := ⟨w.heap.size + 1, 4, none⟩) (by first | omega | (simp; done) | (simp; omega))]; go_simp; done); have hk_w1_2_5 : w1.cell? ⟨w.heap.size + 1, 5, none⟩ = some (.int .u64 (wd 3 sb)) := (by rw [hb1.cell (p := ⟨w.heap.size + 1, 5, none⟩) (by first | omega | (simp; done) | (simp; omega))]; go_simp; done); have hk_w1_2_6 : w1.cell? ⟨w.heap.size + 1, 6, none⟩ = some (.bool false) := (by rw [hb1.cell (p := ⟨w.heap.size + 1, 6, none⟩) (by first | omega | (simp; done) | (simp; omega))]; go_simp; done)
  go_wp2_with (go_at_call 52; refine (signed_any _ _).mono ?_; rintro e w' ⟨rfl, rfl⟩)
  refine bodyPost_ret (v := RES1 (signN m4) 0 false) (by simp [results, Tryd.results43, go_sem, *]) rfl ⟨rfl, ?_⟩
  repeat' (first | with_reducible exact Below.refl _ _ | with_reducible assumption | with_reducible refine Below.drew ?_ | with_reducible refine bdrewN ?_ _ | with_reducible refine Below.alloc ?_ ?_ _ | with_reducible refine Below.setCell ?_ ?_ _ | with_reducible refine Below.trans ?_ (Below.mono (by assumption) ?_) | omega | (simp; done) | (simp; omega))
set_option maxRecDepth 100000 in
set_option maxHeartbeats 1000000 in
theorem summed_B2 (na nb nr lr : Bool) (ea eb E : Int) (sa sb sr m : Nat) (hsr : U256 sr) (P : Hid (∀ W, Calls Tryd.prog 51 #[NV na ea sa false, NV nb eb sb false] W fun e w' => e = .returned (NV nr E sr lr) ∧ Below W.heap.size W w')) (zr : decide (sr = 0) = true) (hl : lr = false) (hsa : U256 sa) (hsb : U256 sb) (za : decide (sa = 0) = true) (zb : decide (sb = 0) = false) (m4 : Bool) (hm4 : ((m : Int) == 4) = m4) (w : World) :
    Calls Tryd.prog 43 #[NV na ea sa false, NV nb eb sb false, .int .u8 m] w (SoftOut (signN m4) 0 false w) := by
  subst hl
  go_enter Tryd.func43, Tryd.ntmps43
  go_wp2_with fail
  refine (P.out _).mono ?_
  rintro e w1 ⟨rfl, hb1⟩; have hz_w1 := (hb1).size; (try simp at hz_w1); have hl_w1_0 : w.heap.size < w1.heap.size := (by omega); have hl_w1_1 : w.heap.size + 1 < w1.heap.size := (by omega); have hl_w1_2 : w.heap.size + 1 + 1 < w1.heap.size := (by omega); have hk_w1_0_0 : w1.cell? ⟨w.heap.size + 1 + 1, 0, none⟩ = some (.int .u64 0) := (by rw [hb1.cell (p := ⟨w.heap.size + 1 + 1, 0, none⟩) (by first | omega | (simp; done) | (simp; omega))]; go_simp; done); have hg_w1_0_0 : w1.frozen? ⟨w.heap.size + 1 + 1, 0, none⟩ = false := (by rw [hb1.frozen (p := ⟨w.heap.size + 1 + 1, 0, none⟩) (by first | omega | (simp; done) | (simp; omega))]; go_simp; done); have hk_w1_0_1 : w1.cell? ⟨w.heap.size + 1 + 1, 1, none⟩ = some (.int .u8 0) := (by rw [hb1.cell (p := ⟨w.heap.size + 1 + 1, 1, none⟩) (by first | omega | (simp; done) | (simp; omega))]; go_simp; done); have hg_w1_0_1 : w1.frozen? ⟨w.heap.size + 1 + 1, 1, none⟩ = false := (by rw [hb1.frozen (p := ⟨w.heap.size + 1 + 1, 1, none⟩) (by first | omega | (simp; done) | (simp; omega))]; go_simp; done); have hk_w1_0_2 : w1.cell? ⟨w.heap.size + 1 + 1, 2, none⟩ = some (.bool false) := (by rw [hb1.cell (p := ⟨w.heap.size + 1 + 1, 2, none⟩) (by first | omega | (simp; done) | (simp; omega))]; go_simp; done); have hg_w1_0_2 : w1.frozen? ⟨w.heap.size + 1 + 1, 2, none⟩ = false := (by rw [hb1.frozen (p := ⟨w.heap.size + 1 + 1, 2, none⟩) (by first | omega | (simp; done) | (simp; omega))]; go_simp; done); have hk_w1_1_0 : w1.cell? ⟨w.heap.size, 0, none⟩ = some (.bool na) := (by rw [hb1.cell (p := ⟨w.heap.size, 0, none⟩) (by first | omega | (simp; done) | (simp; omega))]; go_simp; done); have hk_w1_1_1 : w1.cell? ⟨w.heap.size, 1, none⟩ = some (.int .i64 ea) := (by rw [hb1.cell (p := ⟨w.heap.size, 1, none⟩) (by first | omega | (simp; done) | (simp; omega))]; go_simp; done); have hk_w1_1_2 : w1.cell? ⟨w.heap.size, 2, none⟩ = some (.int .u64 (wd 0 sa)) := (by rw [hb1.cell (p := ⟨w.heap.size, 2, none⟩) (by first | omega | (simp; done) | (simp; omega))]; go_simp; done); have hk_w1_1_3 : w1.cell? ⟨w.heap.size, 3, none⟩ = some (.int .u64 (wd 1 sa)) := (by rw [hb1.cell (p := ⟨w.heap.size, 3, none⟩) (by first | omega | (simp; done) | (simp; omega))]; go_simp; done); have hk_w1_1_4 : w1.cell? ⟨w.heap.size, 4, none⟩ = some (.int .u64 (wd 2 sa)) := (by rw [hb1.cell (p := ⟨w.heap.size, 4, none⟩) (by first | omega | (simp; done) | (simp; omega))]; go_simp; done); have hk_w1_1_5 : w1.cell? ⟨w.heap.size, 5, none⟩ = some (.int .u64 (wd 3 sa)) := (by rw [hb1.cell (p := ⟨w.heap.size, 5, none⟩) (by first | omega | (simp; done) | (simp; omega))]; go_simp; done); have hk_w1_1_6 : w1.cell? ⟨w.heap.size, 6, none⟩ = some (.bool false) := (by rw [hb1.cell (p := ⟨w.heap.size, 6, none⟩) (by first | omega | (simp; done) | (simp; omega))]; go_simp; done); have hk_w1_2_0 : w1.cell? ⟨w.heap.size + 1, 0, none⟩ = some (.bool nb) := (by rw [hb1.cell (p := ⟨w.heap.size + 1, 0, none⟩) (by first | omega | (simp; done) | (simp; omega))]; go_simp; done); have hk_w1_2_1 : w1.cell? ⟨w.heap.size + 1, 1, none⟩ = some (.int .i64 eb) := (by rw [hb1.cell (p := ⟨w.heap.size + 1, 1, none⟩) (by first | omega | (simp; done) | (simp; omega))]; go_simp; done); have hk_w1_2_2 : w1.cell? ⟨w.heap.size + 1, 2, none⟩ = some (.int .u64 (wd 0 sb)) := (by rw [hb1.cell (p := ⟨w.heap.size + 1, 2, none⟩) (by first | omega | (simp; done) | (simp; omega))]; go_simp; done); have hk_w1_2_3 : w1.cell? ⟨w.heap.size + 1, 3, none⟩ = some (.int .u64 (wd 1 sb)) := (by rw [hb1.cell (p := ⟨w.heap.size + 1, 3, none⟩) (by first | omega | (simp; done) | (simp; omega))]; go_simp; done); have hk_w1_2_4 : w1.cell? ⟨w.heap.size + 1, 4, none⟩ = some (.int .u64 (wd 2 sb)) := (by rw [hb1.cell (p := ⟨w.heap.size + 1, 4, none⟩) (by first | omega | (simp; done) | (simp; omega))]; go_simp; done); have hk_w1_2_5 : w1.cell? ⟨w.heap.size + 1, 5, none⟩ = some (.int .u64 (wd 3 sb)) := (by rw [hb1.cell (p := ⟨w.heap.size + 1, 5, none⟩) (by first | omega | (simp; done) | (simp; omega))]; go_simp; done); have hk_w1_2_6 : w1.cell? ⟨w.heap.size + 1, 6, none⟩ = some (.bool false) := (by rw [hb1.cell (p := ⟨w.heap.size + 1, 6, none⟩) (by first | omega | (simp; done) | (simp; omega))]; go_simp; done)
  go_wp2_with (go_at_call 52; refine (signed_any _ _).mono ?_; rintro e w' ⟨rfl, rfl⟩)
  refine bodyPost_ret (v := RES1 (signN m4) 0 false) (by simp [results, Tryd.results43, go_sem, *]) rfl ⟨rfl, ?_⟩
  repeat' (first | with_reducible exact Below.refl _ _ | with_reducible assumption | with_reducible refine Below.drew ?_ | with_reducible refine bdrewN ?_ _ | with_reducible refine Below.alloc ?_ ?_ _ | with_reducible refine Below.setCell ?_ ?_ _ | with_reducible refine Below.trans ?_ (Below.mono (by assumption) ?_) | omega | (simp; done) | (simp; omega))
set_option maxRecDepth 100000 in
set_option maxHeartbeats 1000000 in
theorem summed_B3 (na nb nr lr : Bool) (ea eb E : Int) (sa sb sr m : Nat) (hsr : U256 sr) (P : Hid (∀ W, Calls Tryd.prog 51 #[NV na ea sa false, NV nb eb sb false] W fun e w' => e = .returned (NV nr E sr lr) ∧ Below W.heap.size W w')) (zr : decide (sr = 0) = true) (hl : lr = false) (hsa : U256 sa) (hsb : U256 sb) (za : decide (sa = 0) = true) (zb : decide (sb = 0) = true) (hn : (na == nb) = false) (m4 : Bool) (hm4 : ((m : Int) == 4) = m4) (w : World) :
    Calls Tryd.prog 43 #[NV na ea sa false, NV nb eb sb false, .int .u8 m] w (SoftOut (signN m4) 0 false w) := by
  subst hl
  go_enter Tryd.func43, Tryd.ntmps43
  go_wp2_with fail
  refine (P.out _).mono ?_
  rintro e w1 ⟨rfl, hb1⟩; have hz_w1 := (hb1).size; (try simp at hz_w1); have hl_w1_0 : w.heap.size < w1.heap.size := (by omega); have hl_w1_1 : w.heap.size + 1 < w1.heap.size := (by omega); have hl_w1_2 : w.heap.size + 1 + 1 < w1.heap.size := (by omega); have hk_w1_0_0 : w1.cell? ⟨w.heap.size + 1 + 1, 0, none⟩ = some (.int .u64 0) := (by rw [hb1.cell (p := ⟨w.heap.size + 1 + 1, 0, none⟩) (by first | omega | (simp; done) | (simp; omega))]; go_simp; done); have hg_w1_0_0 : w1.frozen? ⟨w.heap.size + 1 + 1, 0, none⟩ = false := (by rw [hb1.frozen (p := ⟨w.heap.size + 1 + 1, 0, none⟩) (by first | omega | (simp; done) | (simp; omega))]; go_simp; done); have hk_w1_0_1 : w1.cell? ⟨w.heap.size + 1 + 1, 1, none⟩ = some (.int .u8 0) := (by rw [hb1.cell (p := ⟨w.heap.size + 1 + 1, 1, none⟩) (by first | omega | (simp; done) | (simp; omega))]; go_simp; done); have hg_w1_0_1 : w1.frozen? ⟨w.heap.size + 1 + 1, 1, none⟩ = false := (by rw [hb1.frozen (p := ⟨w.heap.size + 1 + 1, 1, none⟩) (by first | omega | (simp; done) | (simp; omega))]; go_simp; done); have hk_w1_0_2 : w1.cell? ⟨w.heap.size + 1 + 1, 2, none⟩ = some (.bool false) := (by rw [hb1.cell (p := ⟨w.heap.size + 1 + 1, 2, none⟩) (by first | omega | (simp; done) | (simp; omega))]; go_simp; done); have hg_w1_0_2 : w1.frozen? ⟨w.heap.size + 1 + 1, 2, none⟩ = false := (by rw [hb1.frozen (p := ⟨w.heap.size + 1 + 1, 2, none⟩) (by first | omega | (simp; done) | (simp; omega))]; go_simp; done); have hk_w1_1_0 : w1.cell? ⟨w.heap.size, 0, none⟩ = some (.bool na) := (by rw [hb1.cell (p := ⟨w.heap.size, 0, none⟩) (by first | omega | (simp; done) | (simp; omega))]; go_simp; done); have hk_w1_1_1 : w1.cell? ⟨w.heap.size, 1, none⟩ = some (.int .i64 ea) := (by rw [hb1.cell (p := ⟨w.heap.size, 1, none⟩) (by first | omega | (simp; done) | (simp; omega))]; go_simp; done); have hk_w1_1_2 : w1.cell? ⟨w.heap.size, 2, none⟩ = some (.int .u64 (wd 0 sa)) := (by rw [hb1.cell (p := ⟨w.heap.size, 2, none⟩) (by first | omega | (simp; done) | (simp; omega))]; go_simp; done); have hk_w1_1_3 : w1.cell? ⟨w.heap.size, 3, none⟩ = some (.int .u64 (wd 1 sa)) := (by rw [hb1.cell (p := ⟨w.heap.size, 3, none⟩) (by first | omega | (simp; done) | (simp; omega))]; go_simp; done); have hk_w1_1_4 : w1.cell? ⟨w.heap.size, 4, none⟩ = some (.int .u64 (wd 2 sa)) := (by rw [hb1.cell (p := ⟨w.heap.size, 4, none⟩) (by first | omega | (simp; done) | (simp; omega))]; go_simp; done); have hk_w1_1_5 : w1.cell? ⟨w.heap.size, 5, none⟩ = some (.int .u64 (wd 3 sa)) := (by rw [hb1.cell (p := ⟨w.heap.size, 5, none⟩) (by first | omega | (simp; done) | (simp; omega))]; go_simp; done); have hk_w1_1_6 : w1.cell? ⟨w.heap.size, 6, none⟩ = some (.bool false) := (by rw [hb1.cell (p := ⟨w.heap.size, 6, none⟩) (by first | omega | (simp; done) | (simp; omega))]; go_simp; done); have hk_w1_2_0 : w1.cell? ⟨w.heap.size + 1, 0, none⟩ = some (.bool nb) := (by rw [hb1.cell (p := ⟨w.heap.size + 1, 0, none⟩) (by first | omega | (simp; done) | (simp; omega))]; go_simp; done); have hk_w1_2_1 : w1.cell? ⟨w.heap.size + 1, 1, none⟩ = some (.int .i64 eb) := (by rw [hb1.cell (p := ⟨w.heap.size + 1, 1, none⟩) (by first | omega | (simp; done) | (simp; omega))]; go_simp; done); have hk_w1_2_2 : w1.cell? ⟨w.heap.size + 1, 2, none⟩ = some (.int .u64 (wd 0 sb)) := (by rw [hb1.cell (p := ⟨w.heap.size + 1, 2, none⟩) (by first | omega | (simp; done) | (simp; omega))]; go_simp; done); have hk_w1_2_3 : w1.cell? ⟨w.heap.size + 1, 3, none⟩ = some (.int .u64 (wd 1 sb)) := (by rw [hb1.cell (p := ⟨w.heap.size + 1, 3, none⟩) (by first | omega | (simp; done) | (simp; omega))]; go_simp; done); have hk_w1_2_4 : w1.cell? ⟨w.heap.size + 1, 4, none⟩ = some (.int .u64 (wd 2 sb)) := (by rw [hb1.cell (p := ⟨w.heap.size + 1, 4, none⟩) (by first | omega | (simp; done) | (simp; omega))]; go_simp; done); have hk_w1_2_5 : w1.cell? ⟨w.heap.size + 1, 5, none⟩ = some (.int .u64 (wd 3 sb)) := (by rw [hb1.cell (p := ⟨w.heap.size + 1, 5, none⟩) (by first | omega | (simp; done) | (simp; omega))]; go_simp; done); have hk_w1_2_6 : w1.cell? ⟨w.heap.size + 1, 6, none⟩ = some (.bool false) := (by rw [hb1.cell (p := ⟨w.heap.size + 1, 6, none⟩) (by first | omega | (simp; done) | (simp; omega))]; go_simp; done)
  go_wp2_with (go_at_call 52; refine (signed_any _ _).mono ?_; rintro e w' ⟨rfl, rfl⟩)
  refine bodyPost_ret (v := RES1 (signN m4) 0 false) (by simp [results, Tryd.results43, go_sem, *]) rfl ⟨rfl, ?_⟩
  repeat' (first | with_reducible exact Below.refl _ _ | with_reducible assumption | with_reducible refine Below.drew ?_ | with_reducible refine bdrewN ?_ _ | with_reducible refine Below.alloc ?_ ?_ _ | with_reducible refine Below.setCell ?_ ?_ _ | with_reducible refine Below.trans ?_ (Below.mono (by assumption) ?_) | omega | (simp; done) | (simp; omega))
set_option maxRecDepth 100000 in
set_option maxHeartbeats 1000000 in
theorem add_bad (op m a b c : Nat) (Ka : Hid (∀ W, Calls Tryd.prog 15 #[.int .u64 a] W fun e w' => e = .returned (.int .i64 3) ∧ W = w')) (Kb : Hid (∀ W, Calls Tryd.prog 15 #[.int .u64 b] W fun e w' => e = .returned (.int .i64 3) ∧ W = w')) (hab : ((a : Int) != b) = true) (w : World) :
    Calls Tryd.prog 33 #[REC op m a b c] w (SoftOut 9221120237041090560 16 false w) := by
  go_enter Tryd.func33, Tryd.ntmps33
  go_upto_region 1 with (fail)
  go_region_held3 (fun w' => (w'.cell? ⟨w.heap.size, 2, none⟩ = some (.int .u64 a) ∧ w'.cell? ⟨w.heap.size, 3, none⟩ = some (.int .u64 b)))
    (first
      | (refine ⟨?_, ?_⟩ <;> (go_simp; done))
      | go_keep)
    (first
      | (go_at_call_of 15 (Value.int IntKind.u64 a); refine (Ka.out _).mono ?_; rintro e w' ⟨rfl, rfl⟩)
      | (go_at_call_of 15 (Value.int IntKind.u64 b); refine (Kb.out _).mono ?_; rintro e w' ⟨rfl, rfl⟩))
  go_wp2_with (go_at_call 16; refine (bad_any _).mono ?_; rintro e w1 ⟨rfl, hb1⟩; obtain ⟨hc_, hf_⟩ := bcell1 hb1)
  all_goals refine bodyPost_ret (v := RES1 9221120237041090560 16 false) (by simp [results, Tryd.results33, go_sem, *]) rfl ⟨rfl, ?_⟩
  repeat' (first | with_reducible exact Below.refl _ _ | with_reducible assumption | with_reducible refine Below.drew ?_ | with_reducible refine bdrewN ?_ _ | with_reducible refine Below.alloc ?_ ?_ _ | with_reducible refine Below.setCell ?_ ?_ _ | with_reducible refine Below.trans ?_ (Below.mono (by assumption) ?_) | omega | (simp; done) | (simp; omega))
set_option maxRecDepth 100000 in
set_option maxHeartbeats 1000000 in
theorem add_a1 (op m a b c : Nat) (Ka : Hid (∀ W, Calls Tryd.prog 15 #[.int .u64 a] W fun e w' => e = .returned (.int .i64 3) ∧ W = w')) (Kb : Hid (∀ W, Calls Tryd.prog 15 #[.int .u64 b] W fun e w' => e = .returned (.int .i64 3) ∧ W = w')) (hab : ((a : Int) != b) = false) (w : World) :
    Calls Tryd.prog 33 #[REC op m a b c] w (SoftOut a 0 false w) := by
  go_enter Tryd.func33, Tryd.ntmps33
  go_upto_region 1 with (fail)
  go_region_held3 (fun w' => (w'.cell? ⟨w.heap.size, 2, none⟩ = some (.int .u64 a) ∧ w'.cell? ⟨w.heap.size, 3, none⟩ = some (.int .u64 b)))
    (first
      | (refine ⟨?_, ?_⟩ <;> (go_simp; done))
      | go_keep)
    (first
      | (go_at_call_of 15 (Value.int IntKind.u64 a); refine (Ka.out _).mono ?_; rintro e w' ⟨rfl, rfl⟩)
      | (go_at_call_of 15 (Value.int IntKind.u64 b); refine (Kb.out _).mono ?_; rintro e w' ⟨rfl, rfl⟩))
  go_wp2_with fail
  all_goals refine bodyPost_ret (v := RES1 a 0 false) (by simp [results, Tryd.results33, go_sem, *]) rfl ⟨rfl, ?_⟩
  repeat' (first | with_reducible exact Below.refl _ _ | with_reducible assumption | with_reducible refine Below.drew ?_ | with_reducible refine bdrewN ?_ _ | with_reducible refine Below.alloc ?_ ?_ _ | with_reducible refine Below.setCell ?_ ?_ _ | with_reducible refine Below.trans ?_ (Below.mono (by assumption) ?_) | omega | (simp; done) | (simp; omega))
set_option maxRecDepth 100000 in
set_option maxHeartbeats 1000000 in
theorem add_a2 (op m a b c kb : Nat) (Ka : Hid (∀ W, Calls Tryd.prog 15 #[.int .u64 a] W fun e w' => e = .returned (.int .i64 3) ∧ W = w')) (Kb : Hid (∀ W, Calls Tryd.prog 15 #[.int .u64 b] W fun e w' => e = .returned (.int .i64 (kb : Int)) ∧ W = w')) (hkb3 : ((kb : Int) == 3) = false) (w : World) :
    Calls Tryd.prog 33 #[REC op m a b c] w (SoftOut a 0 false w) := by
  go_enter Tryd.func33, Tryd.ntmps33
  go_upto_region 1 with (fail)
  go_region_held3 (fun w' => (w'.cell? ⟨w.heap.size, 2, none⟩ = some (.int .u64 a) ∧ w'.cell? ⟨w.heap.size, 3, none⟩ = some (.int .u64 b)))
    (first
      | (refine ⟨?_, ?_⟩ <;> (go_simp; done))
      | go_keep)
    (first
      | (go_at_call_of 15 (Value.int IntKind.u64 a); refine (Ka.out _).mono ?_; rintro e w' ⟨rfl, rfl⟩)
      | (go_at_call_of 15 (Value.int IntKind.u64 b); refine (Kb.out _).mono ?_; rintro e w' ⟨rfl, rfl⟩))
  go_wp2_with fail
  all_goals refine bodyPost_ret (v := RES1 a 0 false) (by simp [results, Tryd.results33, go_sem, *]) rfl ⟨rfl, ?_⟩
  repeat' (first | with_reducible exact Below.refl _ _ | with_reducible assumption | with_reducible refine Below.drew ?_ | with_reducible refine bdrewN ?_ _ | with_reducible refine Below.alloc ?_ ?_ _ | with_reducible refine Below.setCell ?_ ?_ _ | with_reducible refine Below.trans ?_ (Below.mono (by assumption) ?_) | omega | (simp; done) | (simp; omega))
set_option maxRecDepth 100000 in
set_option maxHeartbeats 1000000 in
theorem add_b1 (op m a b c ka : Nat) (Ka : Hid (∀ W, Calls Tryd.prog 15 #[.int .u64 a] W fun e w' => e = .returned (.int .i64 (ka : Int)) ∧ W = w')) (Kb : Hid (∀ W, Calls Tryd.prog 15 #[.int .u64 b] W fun e w' => e = .returned (.int .i64 3) ∧ W = w')) (hka3 : ((ka : Int) == 3) = false) (w : World) :
    Calls Tryd.prog 33 #[REC op m a b c] w (SoftOut b 0 false w) := by
  go_enter Tryd.func33, Tryd.ntmps33
  go_upto_region 1 with (fail)
  go_region_held3 (fun w' => (w'.cell? ⟨w.heap.size, 2, none⟩ = some (.int .u64 a) ∧ w'.cell? ⟨w.heap.size, 3, none⟩ = some (.int .u64 b)))
    (first
      | (refine ⟨?_, ?_⟩ <;> (go_simp; done))
      | go_keep)
    (first
      | (go_at_call_of 15 (Value.int IntKind.u64 a); refine (Ka.out _).mono ?_; rintro e w' ⟨rfl, rfl⟩)
      | (go_at_call_of 15 (Value.int IntKind.u64 b); refine (Kb.out _).mono ?_; rintro e w' ⟨rfl, rfl⟩))
  go_wp2_with fail
  all_goals refine bodyPost_ret (v := RES1 b 0 false) (by simp [results, Tryd.results33, go_sem, *]) rfl ⟨rfl, ?_⟩
  repeat' (first | with_reducible exact Below.refl _ _ | with_reducible assumption | with_reducible refine Below.drew ?_ | with_reducible refine bdrewN ?_ _ | with_reducible refine Below.alloc ?_ ?_ _ | with_reducible refine Below.setCell ?_ ?_ _ | with_reducible refine Below.trans ?_ (Below.mono (by assumption) ?_) | omega | (simp; done) | (simp; omega))
set_option maxRecDepth 100000 in
set_option maxHeartbeats 1000000 in
theorem add_go (op m a b c ka kb : Nat) (Ka : Hid (∀ W, Calls Tryd.prog 15 #[.int .u64 a] W fun e w' => e = .returned (.int .i64 (ka : Int)) ∧ W = w')) (Kb : Hid (∀ W, Calls Tryd.prog 15 #[.int .u64 b] W fun e w' => e = .returned (.int .i64 (kb : Int)) ∧ W = w')) (na nb : Bool) (ea eb : Int) (sa sb bt fl : Nat) (Ua : Hid (∀ W, Calls Tryd.prog 44 #[.int .u64 a] W fun e w' => e = .returned (NV na ea sa false) ∧ Below W.heap.size W w')) (Ub : Hid (∀ W, Calls Tryd.prog 44 #[.int .u64 b] W fun e w' => e = .returned (NV nb eb sb false) ∧ Below W.heap.size W w')) (R : Hid (∀ W, Calls Tryd.prog 43 #[NV na ea sa false, NV nb eb sb false, .int .u8 m] W (SoftOut bt fl false W))) (hka3 : ((ka : Int) == 3) = false) (hkb3 : ((kb : Int) == 3) = false) (w : World) :
    Calls Tryd.prog 33 #[REC op m a b c] w (SoftOut bt fl false w) := by
  go_enter Tryd.func33, Tryd.ntmps33
  go_upto_region 1 with (fail)
  go_region_held3 (fun w' => (w'.cell? ⟨w.heap.size, 2, none⟩ = some (.int .u64 a) ∧ w'.cell? ⟨w.heap.size, 3, none⟩ = some (.int .u64 b)))
    (first
      | (refine ⟨?_, ?_⟩ <;> (go_simp; done))
      | go_keep)
    (first
      | (go_at_call_of 15 (Value.int IntKind.u64 a); refine (Ka.out _).mono ?_; rintro e w' ⟨rfl, rfl⟩)
      | (go_at_call_of 15 (Value.int IntKind.u64 b); refine (Kb.out _).mono ?_; rintro e w' ⟨rfl, rfl⟩))
  have hK_0 : RB w m a b c ((w.alloc (.cells #[.int .u8 op, .int .u8 m, .int .u64 a, .int .u64 b, .int .u64 c] 36)).alloc (.cells #[.int .u64 0, .int .u8 0, .bool false] 33)).drew := (RB.start op).drew
  go_wp2_with fail
  go_region_held3 (fun w' => (w'.cell? ⟨w.heap.size, 1, none⟩ = some (.int .u8 m) ∧ w'.cell? ⟨w.heap.size, 2, none⟩ = some (.int .u64 a) ∧ w'.cell? ⟨w.heap.size, 3, none⟩ = some (.int .u64 b) ∧ w'.cell? ⟨w.heap.size, 4, none⟩ = some (.int .u64 c)))
    (first
      | exact hS_w3
      | exact hS_w2
      | exact hS_w1
      | exact hK_0.1
      | go_keep)
    (first
      | (go_at_call_of 44 (Value.int IntKind.u64 a); refine (Ua.out _).mono ?_; rintro e w1 ⟨rfl, hb1⟩; have hK_w1 : RB w m a b c w1 := RB.step (by first | exact hK_0 | exact hK_0.drew | exact (hK_0.drew).drew) hb1; have hL_w1 := hK_w1; obtain ⟨hS_w1, ⟨hk0_w1, hk1_w1, hk2_w1⟩, ⟨hg0_w1, hg1_w1, hg2_w1⟩, _⟩ := hL_w1)
      | (go_at_call_of 44 (Value.int IntKind.u64 b); refine (Ub.out _).mono ?_; rintro e w2 ⟨rfl, hb2⟩; have hK_w2 : RB w m a b c w2 := RB.step (by first | exact hK_w1 | exact hK_w1.drew | exact (hK_w1.drew).drew | exact hK_0 | exact hK_0.drew | exact (hK_0.drew).drew) hb2; have hL_w2 := hK_w2; obtain ⟨hS_w2, ⟨hk0_w2, hk1_w2, hk2_w2⟩, ⟨hg0_w2, hg1_w2, hg2_w2⟩, _⟩ := hL_w2)
      | (go_at_call 43; refine (R.out _).mono ?_; rintro e w3 ⟨rfl, hb3⟩; have hK_w3 : RB w m a b c w3 := RB.step (by first | exact hK_w2 | exact hK_w2.drew | exact (hK_w2.drew).drew | exact hK_w1 | exact hK_w1.drew | exact (hK_w1.drew).drew) hb3; have hL_w3 := hK_w3; obtain ⟨hS_w3, ⟨hk0_w3, hk1_w3, hk2_w3⟩, ⟨hg0_w3, hg1_w3, hg2_w3⟩, _⟩ := hL_w3))
  go_wp2_with fail
  refine bodyPost_ret (v := RES1 bt fl false) (by simp [results, Tryd.results33, go_sem, *]) rfl ⟨rfl, ?_⟩
  exact hK_w3.laid _ _ _
set_option maxRecDepth 100000 in
set_option maxHeartbeats 1000000 in
theorem sub_k (op m a b c b' bt fl : Nat) (hx : bits .xor .u64 (b : Int) 9223372036854775808 = b') (A : Hid (∀ W, Calls Tryd.prog 33 #[REC op m a b' c] W (SoftOut bt fl false W))) (w : World) :
    Calls Tryd.prog 34 #[REC op m a b c] w (SoftOut bt fl false w) := by
  go_enter Tryd.func34, Tryd.ntmps34
  go_wp2_with fail
  refine (A.out _).mono ?_
  rintro e w1 ⟨rfl, hb1⟩; have hz_w1 := (hb1).size; (try simp at hz_w1); have hl_w1_0 : w.heap.size < w1.heap.size := (by omega); have hl_w1_1 : w.heap.size + 1 < w1.heap.size := (by omega); have hk_w1_0_0 : w1.cell? ⟨w.heap.size + 1, 0, none⟩ = some (.int .u64 0) := (by rw [hb1.cell (p := ⟨w.heap.size + 1, 0, none⟩) (by first | omega | (simp; done) | (simp; omega))]; go_simp; done); have hg_w1_0_0 : w1.frozen? ⟨w.heap.size + 1, 0, none⟩ = false := (by rw [hb1.frozen (p := ⟨w.heap.size + 1, 0, none⟩) (by first | omega | (simp; done) | (simp; omega))]; go_simp; done); have hk_w1_0_1 : w1.cell? ⟨w.heap.size + 1, 1, none⟩ = some (.int .u8 0) := (by rw [hb1.cell (p := ⟨w.heap.size + 1, 1, none⟩) (by first | omega | (simp; done) | (simp; omega))]; go_simp; done); have hg_w1_0_1 : w1.frozen? ⟨w.heap.size + 1, 1, none⟩ = false := (by rw [hb1.frozen (p := ⟨w.heap.size + 1, 1, none⟩) (by first | omega | (simp; done) | (simp; omega))]; go_simp; done); have hk_w1_0_2 : w1.cell? ⟨w.heap.size + 1, 2, none⟩ = some (.bool false) := (by rw [hb1.cell (p := ⟨w.heap.size + 1, 2, none⟩) (by first | omega | (simp; done) | (simp; omega))]; go_simp; done); have hg_w1_0_2 : w1.frozen? ⟨w.heap.size + 1, 2, none⟩ = false := (by rw [hb1.frozen (p := ⟨w.heap.size + 1, 2, none⟩) (by first | omega | (simp; done) | (simp; omega))]; go_simp; done)
  go_wp2_with fail
  refine bodyPost_ret (v := RES1 bt fl false) (by simp [results, Tryd.results34, go_sem, *]) rfl ⟨rfl, ?_⟩
  repeat' (first | with_reducible exact Below.refl _ _ | with_reducible assumption | with_reducible refine Below.drew ?_ | with_reducible refine bdrewN ?_ _ | with_reducible refine Below.alloc ?_ ?_ _ | with_reducible refine Below.setCell ?_ ?_ _ | with_reducible refine Below.trans ?_ (Below.mono (by assumption) ?_) | omega | (simp; done) | (simp; omega))
end Go.Proofs.YtldmbneckcjonabDoor
namespace Go.Proofs.YtldmbneckcjonabDoor
open Go.RowKit
attribute [local go_sem] eq0W_run
set_option maxRecDepth 100000 in
set_option maxHeartbeats 1000000 in
theorem plus_z1 (na nb : Bool) (ea eb : Int) (sa sb : Nat) (hsa : U256 sa) (za : decide (0 = sa) = true) (w : World) :
    Calls Tryd.prog 51 #[NV na ea sa false, NV nb eb sb false] w fun e w' => e = .returned (NV nb eb sb false) ∧ Below w.heap.size w w' := by
  go_enter Tryd.func51, Tryd.ntmps51
  repeat (any_goals (first | go_values | go_skip | go_guarded | go_step | go_upon))
  refine bodyPost_ret (v := NV nb eb sb false) (by simp [results, Tryd.results51, go_sem, *]) rfl ⟨rfl, ?_⟩
  repeat' (first | with_reducible exact Below.refl _ _ | with_reducible assumption | with_reducible refine Below.drew ?_ | with_reducible refine bdrewN ?_ _ | with_reducible refine Below.alloc ?_ ?_ _ | with_reducible refine Below.setCell ?_ ?_ _ | with_reducible refine Below.trans ?_ (Below.mono (by assumption) ?_) | omega | (simp; done) | (simp; omega))
set_option maxRecDepth 100000 in
set_option maxHeartbeats 1000000 in
theorem plus_z2 (na nb : Bool) (ea eb : Int) (sa sb : Nat) (hsa : U256 sa) (hsb : U256 sb) (za : decide (0 = sa) = false) (zb : decide (0 = sb) = true) (w : World) :
    Calls Tryd.prog 51 #[NV na ea sa false, NV nb eb sb false] w fun e w' => e = .returned (NV na ea sa false) ∧ Below w.heap.size w w' := by
  go_enter Tryd.func51, Tryd.ntmps51
  repeat (any_goals (first | go_values | go_skip | go_guarded | go_step | go_upon))
  refine bodyPost_ret (v := NV na ea sa false) (by simp [results, Tryd.results51, go_sem, *]) rfl ⟨rfl, ?_⟩
  repeat' (first | with_reducible exact Below.refl _ _ | with_reducible assumption | with_reducible refine Below.drew ?_ | with_reducible refine bdrewN ?_ _ | with_reducible refine Below.alloc ?_ ?_ _ | with_reducible refine Below.setCell ?_ ?_ _ | with_reducible refine Below.trans ?_ (Below.mono (by assumption) ?_) | omega | (simp; done) | (simp; omega))
theorem plus_two (na nb n1 n2 : Bool) (ea eb e1 e2 : Int) (sa sb s1 s2 : Nat) (ha : sa ≠ 0) (hb : sb ≠ 0) (la : bl sa ≤ 200) (lb : bl sb ≤ 200) (b1 : -4000 ≤ ea) (b2 : ea ≤ 4000) (b3 : -4000 ≤ eb) (b4 : eb ≤ 4000)
    (hsw : (ea + (bl sa : Int) < eb + bl sb ∧ n1 = nb ∧ e1 = eb ∧ s1 = sb ∧ n2 = na ∧ e2 = ea ∧ s2 = sa) ∨ (¬ ea + (bl sa : Int) < eb + bl sb ∧ n1 = na ∧ e1 = ea ∧ s1 = sa ∧ n2 = nb ∧ e2 = eb ∧ s2 = sb)) (w : World) :
    Calls Tryd.prog 51 #[NV na ea sa false, NV nb eb sb false] w fun e w' => e = .returned (NV (plusG n1 n2 s1 s2 e1 e2).1 (plusG n1 n2 s1 s2 e1 e2).2.1 (plusG n1 n2 s1 s2 e1 e2).2.2.1 (plusG n1 n2 s1 s2 e1 e2).2.2.2) ∧ Below w.heap.size w w' := by
  have hs : s1 ≠ 0 ∧ bl s1 ≤ 200 ∧ bl s2 ≤ 200 ∧ -4000 ≤ e1 ∧ e1 ≤ 4000 ∧ -4000 ≤ e2 ∧ e2 ≤ 4000 ∧ e2 + (bl s2 : Int) ≤ e1 + bl s1 := by
    rcases hsw with ⟨h, rfl, rfl, rfl, rfl, rfl, rfl⟩ | ⟨h, rfl, rfl, rfl, rfl, rfl, rfl⟩
    · exact ⟨hb, lb, la, b3, b4, b1, b2, by omega⟩
    · exact ⟨ha, la, lb, b1, b2, b3, b4, by omega⟩
  obtain ⟨h0, l1, l2, c1, c2, c3, c4, ho⟩ := hs
  have uA := plusA_bl h0 l1
  obtain ⟨uB, uB2⟩ := plusB_bl l1 l2 ho
  have uAB := (plusH_bl (n1 := true) (n2 := true) (E := 0) (l := false) uA uB).1
  unfold plusG
  have hA : shlN s1 (250 - bl s1) = s1 * 2 ^ (250 - bl s1) := shlN_eq (u256_of_bl (by omega))
  have hBB : (0 < e1 - ((250 - bl s1 : Nat) : Int) - e2 ∧ plusB s2 e2 (e1 - (250 - bl s1 : Nat)) = s2 / 2 ^ (e1 - ((250 - bl s1 : Nat) : Int) - e2).toNat ∧ plusL s2 e2 (e1 - (250 - bl s1 : Nat)) = decide (s2 % 2 ^ (e1 - ((250 - bl s1 : Nat) : Int) - e2).toNat ≠ 0)) ∨
      (¬ 0 < e1 - ((250 - bl s1 : Nat) : Int) - e2 ∧ 0 ≤ -(e1 - ((250 - bl s1 : Nat) : Int) - e2) ∧ -(e1 - ((250 - bl s1 : Nat) : Int) - e2) < 100000 ∧ plusB s2 e2 (e1 - (250 - bl s1 : Nat)) = shlN s2 (-(e1 - ((250 - bl s1 : Nat) : Int) - e2)).toNat ∧ plusL s2 e2 (e1 - (250 - bl s1 : Nat)) = false) := by
    by_cases hd : 0 < e1 - ((250 - bl s1 : Nat) : Int) - e2
    · exact .inl ⟨hd, by unfold plusB; rw [if_pos hd], by unfold plusL; rw [if_pos hd]⟩
    · refine .inr ⟨hd, by omega, by omega, ?_, by unfold plusL; rw [if_neg hd]⟩
      have e : plusB s2 e2 (e1 - (250 - bl s1 : Nat)) = s2 * 2 ^ (e2 - (e1 - ((250 - bl s1 : Nat) : Int))).toNat := by unfold plusB; rw [if_neg hd]
      rw [e] at uB ⊢
      rw [show (-(e1 - ((250 - bl s1 : Nat) : Int) - e2)).toNat = (e2 - (e1 - ((250 - bl s1 : Nat) : Int))).toNat from by omega]
      exact (shlN_eq (u256_of_bl (by omega))).symm
  generalize hEE : e1 - ((250 - bl s1 : Nat) : Int) = E at *
  generalize hBv : plusB s2 e2 E = B at *
  generalize hLv : plusL s2 e2 E = lf at *
  generalize hAv : s1 * 2 ^ (250 - bl s1) = A at *
  have ulB : U256 B := u256_of_bl (by omega)
  have ulA : U256 A := u256_of_bl (by omega)
  have hR : (n1 = n2 ∧ U256 (A + B) ∧ (plusH n1 n2 A B E lf).1 = n1 ∧ (plusH n1 n2 A B E lf).2.2.1 = A + B ∧ (plusH n1 n2 A B E lf).2.2.2 = lf) ∨ (n1 ≠ n2 ∧ A < B ∧ (plusH n1 n2 A B E lf).1 = n2 ∧ (plusH n1 n2 A B E lf).2.2.1 = subN B A ∧ (plusH n1 n2 A B E lf).2.2.2 = false) ∨ (n1 ≠ n2 ∧ ¬ A < B ∧ lf = true ∧ (plusH n1 n2 A B E lf).1 = n1 ∧ (plusH n1 n2 A B E lf).2.2.1 = subN (subN A B) 1 ∧ (plusH n1 n2 A B E lf).2.2.2 = true) ∨ (n1 ≠ n2 ∧ ¬ A < B ∧ lf = false ∧ (plusH n1 n2 A B E lf).1 = n1 ∧ (plusH n1 n2 A B E lf).2.2.1 = subN A B ∧ (plusH n1 n2 A B E lf).2.2.2 = false) := by
    unfold plusH
    by_cases hn : n1 = n2
    · rw [if_pos hn]
      have u2 : U256 (A + B) := by
        have : bl (A + B) ≤ 251 := uAB
        exact u256_of_bl (by omega)
      exact .inl ⟨hn, u2, rfl, rfl, rfl⟩
    · rw [if_neg hn]
      by_cases hlt : A < B
      · rw [if_pos hlt]
        exact .inr (.inl ⟨hn, hlt, rfl, (subN_le ulB (by omega)).symm, rfl⟩)
      · rw [if_neg hlt]
        cases lf with
        | true =>
          have hBA : B < A := by
            have h5 := uB2 rfl
            have h6 := bl_le.1 h5
            have h7 : 2 ^ 249 ≤ A := lt_bl.1 (by omega)
            have h8 : (2 : Nat) ^ 200 ≤ 2 ^ 249 := Nat.pow_le_pow_right (by decide) (by omega)
            omega
          have e1 := subN_le ulA (show B ≤ A by omega)
          have e2 := subN_le (subN_u256 A B) (show 1 ≤ subN A B by rw [e1]; omega)
          rw [e1] at e2
          exact .inr (.inr (.inl ⟨hn, hlt, rfl, rfl, by rw [e1]; exact e2.symm, rfl⟩))
        | false => exact .inr (.inr (.inr ⟨hn, hlt, rfl, rfl, (subN_le ulA (by omega)).symm, rfl⟩))
  have hE2 : (plusH n1 n2 A B E lf).2.1 = E := (plusH_bl uA uB).2
  rw [hE2]
  exact plus_go na nb n1 n2 ea eb e1 e2 _ _ sa sb s1 s2 (u256_of_bl (by omega)) (u256_of_bl (by omega)) (decide_eq_false (by omega)) (decide_eq_false (by omega)) (show _ = ea + (bl sa : Int) by rw [IntKind.wrap_i64]; omega) (show _ = eb + (bl sb : Int) by rw [IntKind.wrap_i64]; omega) hsw
    (u256_of_bl (by omega)) (250 - bl s1) (by unfold wrap64; omega) (by omega) A hA ulA E (by rw [IntKind.wrap_i64]; omega) (u256_of_bl (by omega)) (E - e2) (by unfold wrap64; omega) B lf ulB (-(E - e2)) (by unfold wrap64; omega) hBB _ _ _ hR w
theorem plus_any (na nb : Bool) (ea eb : Int) (sa sb : Nat) (la : bl sa ≤ 200) (lb : bl sb ≤ 200) (b1 : -4000 ≤ ea) (b2 : ea ≤ 4000) (b3 : -4000 ≤ eb) (b4 : eb ≤ 4000) (w : World) :
    Calls Tryd.prog 51 #[NV na ea sa false, NV nb eb sb false] w fun e w' => e = .returned (NV (plusP na nb sa sb ea eb).1 (plusP na nb sa sb ea eb).2.1 (plusP na nb sa sb ea eb).2.2.1 (plusP na nb sa sb ea eb).2.2.2) ∧ Below w.heap.size w w' := by
  unfold plusP
  by_cases ha : sa = 0
  · rw [if_pos ha]
    exact plus_z1 na nb ea eb sa sb (u256_of_bl (by omega)) (decide_eq_true ha.symm) w
  · rw [if_neg ha]
    by_cases hb : sb = 0
    · rw [if_pos hb]
      exact plus_z2 na nb ea eb sa sb (u256_of_bl (by omega)) (u256_of_bl (by omega)) (decide_eq_false (by omega)) (decide_eq_true hb.symm) w
    · rw [if_neg hb]
      by_cases hl : ea + (bl sa : Int) < eb + bl sb
      · rw [if_pos hl]
        exact plus_two na nb nb na ea eb eb ea sa sb sb sa ha hb la lb b1 b2 b3 b4 (.inl ⟨hl, rfl, rfl, rfl, rfl, rfl, rfl⟩) w
      · rw [if_neg hl]
        exact plus_two na nb na nb ea eb ea eb sa sb sa sb ha hb la lb b1 b2 b3 b4 (.inr ⟨hl, rfl, rfl, rfl, rfl, rfl, rfl⟩) w
theorem summed_any (na nb : Bool) (ea eb : Int) (sa sb m : Nat) (hm : m < 5) (la : bl sa ≤ 200) (lb : bl sb ≤ 200) (b1 : -4000 ≤ ea) (b2 : ea ≤ 4000) (b3 : -4000 ≤ eb) (b4 : eb ≤ 4000) (w : World) :
    Calls Tryd.prog 43 #[NV na ea sa false, NV nb eb sb false, .int .u8 m] w (SoftOut (addedV m na nb (val sa ea) (val sb eb)).1 (addedV m na nb (val sa ea) (val sb eb)).2 false w) := by
  have P := Lib.hid (fun W => plus_any na nb ea eb sa sb la lb b1 b2 b3 b4 W)
  have ok := plusP_ok (n1 := na) (n2 := nb) la lb b1 b3
  obtain ⟨q1, q2⟩ := plusP_bl (n1 := na) (n2 := nb) (e1 := ea) (e2 := eb) la lb b2 b4
  have hz := ok.zero
  have hr := fun h => ok.round (m := m) h
  obtain ⟨_, ok2, ok3, _⟩ := ok
  have usa : U256 sa := u256_of_bl (by omega)
  have usb : U256 sb := u256_of_bl (by omega)
  have va := val_eq_zero (n := sa) (e := ea)
  have vb := val_eq_zero (n := sb) (e := eb)
  unfold addedV
  generalize plusP na nb sa sb ea eb = p at *
  obtain ⟨nr, E, sr, lr⟩ := p
  simp only at P q1 q2 hz hr ok2 ok3
  have usr : U256 sr := u256_of_bl (by omega)
  by_cases hV : (sumV na nb (val sa ea) (val sb eb)).2 = 0
  · rw [if_neg (by rw [hV]; simp)]
    have hn := mt hz.1 (by rw [hV]; simp)
    have hsr : sr = 0 := by rcases Nat.eq_zero_or_pos sr with h | h; exact h; exact absurd (.inl (by omega)) hn
    have hlr : lr = false := by cases lr; rfl; exact absurd (.inr rfl) hn
    by_cases h4 : val sa ea = 0 ∧ val sb eb = 0 ∧ na = nb
    · rw [if_pos h4]
      exact summed_B0 na nb nr lr ea eb E sa sb sr m usr P (decide_eq_true hsr) hlr usa usb (decide_eq_true (va.1 h4.1)) (decide_eq_true (vb.1 h4.2.1)) (by rw [h4.2.2]; exact beq_self_eq_true nb) w
    · rw [if_neg h4]
      have hm4 : ((m : Int) == 4) = decide (m = 4) := by
        by_cases h : m = 4
        · rw [decide_eq_true h, h]; rfl
        · rw [decide_eq_false h, beq_eq_false_iff_ne]; omega
      by_cases h5 : sa = 0
      · by_cases h6 : sb = 0
        · have hne : (na == nb) = false := by rw [beq_eq_false_iff_ne]; exact fun h => h4 ⟨va.2 h5, vb.2 h6, h⟩
          exact summed_B3 na nb nr lr ea eb E sa sb sr m usr P (decide_eq_true hsr) hlr usa usb (decide_eq_true h5) (decide_eq_true h6) hne _ hm4 w
        · exact summed_B2 na nb nr lr ea eb E sa sb sr m usr P (decide_eq_true hsr) hlr usa usb (decide_eq_true h5) (decide_eq_false h6) _ hm4 w
      · exact summed_B1 na nb nr lr ea eb E sa sb sr m usr P (decide_eq_true hsr) hlr usa usb (decide_eq_false h5) _ hm4 w
  · rw [if_pos hV, ← hr hV]
    have hs0 : sr ≠ 0 := by
      rcases hz.2 hV with h | h
      · exact h
      · have := ok2 h; exact bl_pos.1 (by omega)
    exact summed_A na nb nr lr ea eb E sa sb sr m usr P (decide_eq_false hs0) _ _ (fun W => round_any nr lr E sr m usr hs0 hm (by omega) (by omega) W) w
theorem nef3 {k n : Nat} (h : k ≠ n) : ((k : Int) == (n : Int)) = false := by rw [beq_eq_false_iff_ne]; omega
theorem bl_sigU (a : Nat) : bl (sigU a) ≤ 53 := bl_le.2 (sigU_lt a)
theorem add_any (op m a b c : Nat) (hm : m < 5) (ua : U64 a) (ub : U64 b) (ka : kindN a < 4) (kb : kindN b < 4) (w : World) : Calls Tryd.prog 33 #[REC op m a b c] w (SoftOut (addS m a b).1 (addS m a b).2 false w) := by
  have Ka := Lib.hid (fun W => kindOf_any a W)
  have Kb := Lib.hid (fun W => kindOf_any b W)
  unfold addS
  by_cases h1 : kindN a = 3
  · rw [h1] at Ka ⊢
    by_cases h2 : kindN b = 3
    · rw [h2] at Kb ⊢
      by_cases hab : a = b
      · rw [if_neg (by simp [hab]), if_pos rfl]
        exact add_a1 op m a b c Ka Kb (by rw [hab]; simp) w
      · rw [if_pos ⟨rfl, rfl, hab⟩]
        exact add_bad op m a b c Ka Kb (by rw [bne_iff_ne]; omega) w
    · rw [if_neg (by omega), if_pos rfl]
      exact add_a2 op m a b c _ Ka Kb (nef3 (n := 3) h2) w
  · rw [if_neg (by omega), if_neg h1]
    by_cases h2 : kindN b = 3
    · rw [h2] at Kb
      rw [if_pos h2]
      exact add_b1 op m a b c _ Ka Kb (nef3 (n := 3) h1) w
    · rw [if_neg h2, ← val_norm, ← val_norm]
      have c1 := expU_bounds a
      have c2 := expU_bounds b
      have d1 := bl_sigU a
      have d2 := bl_sigU b
      exact add_go op m a b c _ _ Ka Kb _ _ _ _ _ _ _ _ (fun W => unpack_any a ua W) (fun W => unpack_any b ub W) (fun W => summed_any _ _ _ _ _ _ m hm (by omega) (by omega) (by omega) (by omega) (by omega) (by omega) W) (nef3 (n := 3) h1) (nef3 (n := 3) h2) w
theorem kind_turn {b : Nat} (ub : U64 b) : kindN (turnN b) = kindN b := by
  have h : turnN b = b + 9223372036854775808 ∨ (9223372036854775808 ≤ b ∧ turnN b = b - 9223372036854775808) := by
    unfold turnN
    rcases Nat.lt_or_ge b 9223372036854775808 with h | h
    · left
      have := Nat.two_pow_add_eq_or_of_lt (i := 63) (b := b) h 1
      rw [Nat.mul_one] at this
      have e : (9223372036854775808 : Nat) = 2 ^ 63 := by decide
      rw [e] at h ⊢
      apply Nat.eq_of_testBit_eq
      intro j
      rw [Nat.add_comm, this, Nat.testBit_xor, Nat.testBit_or, Nat.testBit_two_pow]
      by_cases hj : 63 = j
      · subst hj; rw [Nat.testBit_lt_two_pow h]; rfl
      · rw [decide_eq_false hj]; simp
    · right
      refine ⟨h, ?_⟩
      obtain ⟨d, rfl⟩ : ∃ d, b = 9223372036854775808 + d := ⟨b - 9223372036854775808, by omega⟩
      have hd : d < 9223372036854775808 := by have := ub.out; omega
      have := Nat.two_pow_add_eq_or_of_lt (i := 63) (b := d) hd 1
      rw [Nat.mul_one] at this
      have e : (9223372036854775808 : Nat) = 2 ^ 63 := by decide
      rw [Nat.add_sub_cancel_left]
      rw [e] at hd ⊢
      apply Nat.eq_of_testBit_eq
      intro j
      rw [this, Nat.testBit_xor, Nat.testBit_or, Nat.testBit_two_pow]
      by_cases hj : 63 = j
      · subst hj; rw [Nat.testBit_lt_two_pow hd]; rfl
      · rw [decide_eq_false hj]; simp
  unfold kindN
  rcases h with h | ⟨h0, h⟩
  · rw [h, show (b + 9223372036854775808) / 4503599627370496 % 2048 = b / 4503599627370496 % 2048 from by omega, show (b + 9223372036854775808) % 4503599627370496 = b % 4503599627370496 from by omega]
  · rw [h, show (b - 9223372036854775808) / 4503599627370496 % 2048 = b / 4503599627370496 % 2048 from by omega, show (b - 9223372036854775808) % 4503599627370496 = b % 4503599627370496 from by omega]
theorem sub_any (op m a b c : Nat) (hm : m < 5) (ua : U64 a) (ub : U64 b) (ka : kindN a < 4) (kb : kindN b < 4) (w : World) : Calls Tryd.prog 34 #[REC op m a b c] w (SoftOut (addS m a (turnN b)).1 (addS m a (turnN b)).2 false w) :=
  sub_k op m a b c _ _ _ (turn_xor ub) (fun W => add_any op m a (turnN b) c hm ua (turn_u ub) ka (by rw [kind_turn ub]; exact kb) W) w
end Go.Proofs.YtldmbneckcjonabDoor
