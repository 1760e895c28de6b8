-- PRINTED BY print.sh 35421559b90ae4d0a3588c463048766b98c2df88dd9212a6774a882060cdf62d: not written by this session
import Derived.Test.YtdaeombjdagnbaaDoorPJoiningFormsx0
import Derived.Test.YtdaeombjdagnbaaDoorPJoiningFormsx2
namespace Go.Proofs.YtdaeombjdagnbaaDoor.PJoiningForms
open Go.RowKit Go.Proofs.YtdaeombjdagnbaaDoorW.PrintWords Go.Proofs.YtdaeombjdagnbaaDoorW.PrintLast Go.Proofs.YtdaeombjdagnbaaDoorW.PrintMore
attribute [local go_sem] max2_int min2_int max_two min_two max_three min_three max_four min_four   -- for this text's walks alone
set_option linter.unusedVariables false
set_option linter.unusedSimpArgs false

/-! ### reedpenref23_Forms: function 12 -/
mutual
def reedpenref23_Forms.l0 : Nat → List Int → List Int → List Int → Int → Option (List Int)
  | 0, _, _, _, _ => none
  | k + 1, x0, x3, x4, x5 => if x5 < (x4.length : Int) then (if 0 ≤ x5 then (if 0 ≤ (rd x4 x5) then (if (rd x4 x5) < (x0.length : Int) then (if (rd x0 (rd x4 x5)) < 1 then (reedpenref23_Forms.j1 k x0 x3 x4 x5 (rd x0 (rd x4 x5)) true) else (reedpenref23_Forms.j1 k x0 x3 x4 x5 (rd x0 (rd x4 x5)) (decide ((rd x0 (rd x4 x5)) > 3)))) else (none)) else (none)) else (none)) else (some x3)
def reedpenref23_Forms.j1 : Nat → List Int → List Int → List Int → Int → Int → Bool → Option (List Int)
  | 0, _, _, _, _, _, _ => none
  | k + 1, x0, x3, x4, x5, x6, x33 => if x33 = true then (reedpenref23_Forms.l0 k x0 x3 x4 (wrap64 (x5 + 1))) else (if x5 > 0 then (if 0 ≤ (wrap64 (x5 - 1)) then (if (wrap64 (x5 - 1)) < (x4.length : Int) then (if 0 ≤ (rd x4 (wrap64 (x5 - 1))) then (if (rd x4 (wrap64 (x5 - 1))) < (x0.length : Int) then ((reedpenref23_Joins.f (rd x0 (rd x4 (wrap64 (x5 - 1)))) x6).bind fun t139 => (reedpenref23_Forms.j2 k x0 x3 x4 x5 x6 t139)) else (none)) else (none)) else (none)) else (none)) else (reedpenref23_Forms.j2 k x0 x3 x4 x5 x6 false))
def reedpenref23_Forms.j2 : Nat → List Int → List Int → List Int → Int → Int → Bool → Option (List Int)
  | 0, _, _, _, _, _, _ => none
  | k + 1, x0, x3, x4, x5, x6, x7 => if (wrap64 (x5 + 1)) < (x4.length : Int) then (if 0 ≤ (wrap64 (x5 + 1)) then (if 0 ≤ (rd x4 (wrap64 (x5 + 1))) then (if (rd x4 (wrap64 (x5 + 1))) < (x0.length : Int) then ((reedpenref23_Joins.f x6 (rd x0 (rd x4 (wrap64 (x5 + 1))))).bind fun t142 => (reedpenref23_Forms.j3 k x0 x3 x4 x5 x7 t142)) else (none)) else (none)) else (none)) else (reedpenref23_Forms.j3 k x0 x3 x4 x5 x7 false)
def reedpenref23_Forms.j3 : Nat → List Int → List Int → List Int → Int → Bool → Bool → Option (List Int)
  | 0, _, _, _, _, _, _ => none
  | k + 1, x0, x3, x4, x5, x7, x8 => if x7 = true then (reedpenref23_Forms.j4 k x0 x3 x4 x5 x7 x8 1 x8) else (reedpenref23_Forms.j4 k x0 x3 x4 x5 x7 x8 1 false)
def reedpenref23_Forms.j4 : Nat → List Int → List Int → List Int → Int → Bool → Bool → Int → Bool → Option (List Int)
  | 0, _, _, _, _, _, _, _, _ => none
  | k + 1, x0, x3, x4, x5, x7, x8, x9, x68 => if x68 = true then (if 0 ≤ x5 then (if x5 < (x4.length : Int) then (if 0 ≤ (rd x4 x5) then (if (rd x4 x5) < (x3.length : Int) then (reedpenref23_Forms.l0 k x0 (x3.set ((rd x4 x5) : Int).toNat 3) x4 (wrap64 (x5 + 1))) else (none)) else (none)) else (none)) else (none)) else (if x7 = true then (if 0 ≤ x5 then (if x5 < (x4.length : Int) then (if 0 ≤ (rd x4 x5) then (if (rd x4 x5) < (x3.length : Int) then (reedpenref23_Forms.l0 k x0 (x3.set ((rd x4 x5) : Int).toNat 2) x4 (wrap64 (x5 + 1))) else (none)) else (none)) else (none)) else (none)) else (if x8 = true then (if 0 ≤ x5 then (if x5 < (x4.length : Int) then (if 0 ≤ (rd x4 x5) then (if (rd x4 x5) < (x3.length : Int) then (reedpenref23_Forms.l0 k x0 (x3.set ((rd x4 x5) : Int).toNat 4) x4 (wrap64 (x5 + 1))) else (none)) else (none)) else (none)) else (none)) else (if 0 ≤ x5 then (if x5 < (x4.length : Int) then (if 0 ≤ (rd x4 x5) then (if (rd x4 x5) < (x3.length : Int) then (reedpenref23_Forms.l0 k x0 (x3.set ((rd x4 x5) : Int).toNat x9) x4 (wrap64 (x5 + 1))) else (none)) else (none)) else (none)) else (none))))
end
def reedpenref23_Forms.f (k : Nat) (l0 : List Int) : Option (List Int) := if 0 ≤ (l0.length : Int) then (if ((l0.length : Int) : Int).toNat ≤ 35184372088832 then ((reedpenref23_Seen.f k l0).bind fun t132 => (reedpenref23_Forms.l0 k l0 (List.replicate ((l0.length : Int) : Int).toNat 0) t132 0)) else (none)) else (none)
theorem reedpenref23_Forms.mono_l : ∀ k, (∀ y0 y1 y2 y3, LeO (reedpenref23_Forms.l0 k y0 y1 y2 y3) (reedpenref23_Forms.l0 (k + 1) y0 y1 y2 y3)) ∧ (∀ y0 y1 y2 y3 y4 y5, LeO (reedpenref23_Forms.j1 k y0 y1 y2 y3 y4 y5) (reedpenref23_Forms.j1 (k + 1) y0 y1 y2 y3 y4 y5)) ∧ (∀ y0 y1 y2 y3 y4 y5, LeO (reedpenref23_Forms.j2 k y0 y1 y2 y3 y4 y5) (reedpenref23_Forms.j2 (k + 1) y0 y1 y2 y3 y4 y5)) ∧ (∀ y0 y1 y2 y3 y4 y5, LeO (reedpenref23_Forms.j3 k y0 y1 y2 y3 y4 y5) (reedpenref23_Forms.j3 (k + 1) y0 y1 y2 y3 y4 y5)) ∧ (∀ y0 y1 y2 y3 y4 y5 y6 y7, LeO (reedpenref23_Forms.j4 k y0 y1 y2 y3 y4 y5 y6 y7) (reedpenref23_Forms.j4 (k + 1) y0 y1 y2 y3 y4 y5 y6 y7))
  | 0 => ⟨fun _ _ _ _ r h => by simp [reedpenref23_Forms.l0] at h, fun _ _ _ _ _ _ r h => by simp [reedpenref23_Forms.j1] at h, fun _ _ _ _ _ _ r h => by simp [reedpenref23_Forms.j2] at h, fun _ _ _ _ _ _ r h => by simp [reedpenref23_Forms.j3] at h, fun _ _ _ _ _ _ _ _ r h => by simp [reedpenref23_Forms.j4] at h⟩
  | k + 1 => by
    obtain ⟨ih0, ih1, ih2, ih3, ih4⟩ := reedpenref23_Forms.mono_l k
    refine ⟨?_, ?_, ?_, ?_, ?_⟩
    · intro y0 y1 y2 y3
      unfold reedpenref23_Forms.l0
      repeat' first
      | (with_reducible exact ih0 _ _ _ _)
      | (with_reducible exact ih1 _ _ _ _ _ _)
      | (with_reducible exact ih2 _ _ _ _ _ _)
      | (with_reducible exact ih3 _ _ _ _ _ _)
      | (with_reducible exact ih4 _ _ _ _ _ _ _ _)
      | (with_reducible exact reedpenref23_Seen.mono _ _)
      | (with_reducible exact LeO.refl _)
      | (with_reducible exact LeO.none _)
      | (with_reducible refine LeO.ite ?_ ?_)
      | (with_reducible refine LeO.bind ?_ (fun _ => ?_))
      | exact ih0 _ _ _ _
      | exact ih1 _ _ _ _ _ _
      | exact ih2 _ _ _ _ _ _
      | exact ih3 _ _ _ _ _ _
      | exact ih4 _ _ _ _ _ _ _ _
      | exact reedpenref23_Seen.mono _ _
      | exact LeO.none _
      | refine LeO.ite ?_ ?_
      | refine LeO.bind ?_ (fun _ => ?_)
    · intro y0 y1 y2 y3 y4 y5
      unfold reedpenref23_Forms.j1
      repeat' first
      | (with_reducible exact ih0 _ _ _ _)
      | (with_reducible exact ih1 _ _ _ _ _ _)
      | (with_reducible exact ih2 _ _ _ _ _ _)
      | (with_reducible exact ih3 _ _ _ _ _ _)
      | (with_reducible exact ih4 _ _ _ _ _ _ _ _)
      | (with_reducible exact reedpenref23_Seen.mono _ _)
      | (with_reducible exact LeO.refl _)
      | (with_reducible exact LeO.none _)
      | (with_reducible refine LeO.ite ?_ ?_)
      | (with_reducible refine LeO.bind ?_ (fun _ => ?_))
      | exact ih0 _ _ _ _
      | exact ih1 _ _ _ _ _ _
      | exact ih2 _ _ _ _ _ _
      | exact ih3 _ _ _ _ _ _
      | exact ih4 _ _ _ _ _ _ _ _
      | exact reedpenref23_Seen.mono _ _
      | exact LeO.none _
      | refine LeO.ite ?_ ?_
      | refine LeO.bind ?_ (fun _ => ?_)
    · intro y0 y1 y2 y3 y4 y5
      unfold reedpenref23_Forms.j2
      repeat' first
      | (with_reducible exact ih0 _ _ _ _)
      | (with_reducible exact ih1 _ _ _ _ _ _)
      | (with_reducible exact ih2 _ _ _ _ _ _)
      | (with_reducible exact ih3 _ _ _ _ _ _)
      | (with_reducible exact ih4 _ _ _ _ _ _ _ _)
      | (with_reducible exact reedpenref23_Seen.mono _ _)
      | (with_reducible exact LeO.refl _)
      | (with_reducible exact LeO.none _)
      | (with_reducible refine LeO.ite ?_ ?_)
      | (with_reducible refine LeO.bind ?_ (fun _ => ?_))
      | exact ih0 _ _ _ _
      | exact ih1 _ _ _ _ _ _
      | exact ih2 _ _ _ _ _ _
      | exact ih3 _ _ _ _ _ _
      | exact ih4 _ _ _ _ _ _ _ _
      | exact reedpenref23_Seen.mono _ _
      | exact LeO.none _
      | refine LeO.ite ?_ ?_
      | refine LeO.bind ?_ (fun _ => ?_)
    · intro y0 y1 y2 y3 y4 y5
      unfold reedpenref23_Forms.j3
      repeat' first
      | (with_reducible exact ih0 _ _ _ _)
      | (with_reducible exact ih1 _ _ _ _ _ _)
      | (with_reducible exact ih2 _ _ _ _ _ _)
      | (with_reducible exact ih3 _ _ _ _ _ _)
      | (with_reducible exact ih4 _ _ _ _ _ _ _ _)
      | (with_reducible exact reedpenref23_Seen.mono _ _)
      | (with_reducible exact LeO.refl _)
      | (with_reducible exact LeO.none _)
      | (with_reducible refine LeO.ite ?_ ?_)
      | (with_reducible refine LeO.bind ?_ (fun _ => ?_))
      | exact ih0 _ _ _ _
      | exact ih1 _ _ _ _ _ _
      | exact ih2 _ _ _ _ _ _
      | exact ih3 _ _ _ _ _ _
      | exact ih4 _ _ _ _ _ _ _ _
      | exact reedpenref23_Seen.mono _ _
      | exact LeO.none _
      | refine LeO.ite ?_ ?_
      | refine LeO.bind ?_ (fun _ => ?_)
    · intro y0 y1 y2 y3 y4 y5 y6 y7
      unfold reedpenref23_Forms.j4
      repeat' first
      | (with_reducible exact ih0 _ _ _ _)
      | (with_reducible exact ih1 _ _ _ _ _ _)
      | (with_reducible exact ih2 _ _ _ _ _ _)
      | (with_reducible exact ih3 _ _ _ _ _ _)
      | (with_reducible exact ih4 _ _ _ _ _ _ _ _)
      | (with_reducible exact reedpenref23_Seen.mono _ _)
      | (with_reducible exact LeO.refl _)
      | (with_reducible exact LeO.none _)
      | (with_reducible refine LeO.ite ?_ ?_)
      | (with_reducible refine LeO.bind ?_ (fun _ => ?_))
      | exact ih0 _ _ _ _
      | exact ih1 _ _ _ _ _ _
      | exact ih2 _ _ _ _ _ _
      | exact ih3 _ _ _ _ _ _
      | exact ih4 _ _ _ _ _ _ _ _
      | exact reedpenref23_Seen.mono _ _
      | exact LeO.none _
      | refine LeO.ite ?_ ?_
      | refine LeO.bind ?_ (fun _ => ?_)
theorem reedpenref23_Forms.mono : ∀ a0 k, LeO (reedpenref23_Forms.f k a0) (reedpenref23_Forms.f (k + 1) a0) := by
  intro a0 k
  obtain ⟨ih0, ih1, ih2, ih3, ih4⟩ := reedpenref23_Forms.mono_l k
  unfold reedpenref23_Forms.f
  repeat' first
      | (with_reducible exact ih0 _ _ _ _)
      | (with_reducible exact ih1 _ _ _ _ _ _)
      | (with_reducible exact ih2 _ _ _ _ _ _)
      | (with_reducible exact ih3 _ _ _ _ _ _)
      | (with_reducible exact ih4 _ _ _ _ _ _ _ _)
      | (with_reducible exact reedpenref23_Seen.mono _ _)
      | (with_reducible exact LeO.refl _)
      | (with_reducible exact LeO.none _)
      | (with_reducible refine LeO.ite ?_ ?_)
      | (with_reducible refine LeO.bind ?_ (fun _ => ?_))
      | exact ih0 _ _ _ _
      | exact ih1 _ _ _ _ _ _
      | exact ih2 _ _ _ _ _ _
      | exact ih3 _ _ _ _ _ _
      | exact ih4 _ _ _ _ _ _ _ _
      | exact reedpenref23_Seen.mono _ _
      | exact LeO.none _
      | refine LeO.ite ?_ ?_
      | refine LeO.bind ?_ (fun _ => ?_)
set_option maxHeartbeats 8000000 in
set_option maxRecDepth 100000 in
theorem reedpenref23_Forms.calls (k : Nat) (A0 : Option Addr) (c0 : Nat) (l0 : List Int) (r : List Int) (w : World) (hr0 : Kd.C (Kd.int .i64) w A0 l0.length l0) (hc0 : l0.length ≤ c0) (h : reedpenref23_Forms.f k l0 = some r) :
    Calls Tryd.prog 12 #[.slice A0 l0.length c0] w fun e w' => ∃ v0_ : Value, e = .returned (v0_) ∧ Kd.R (Kd.int .i64) 3 w' w.heap.size (fun _ => True) v0_ r ∧ Below w.heap.size w w' := by
  have HR0 := Aside0.mk hr0
  have HC0 := Aside0.mk hc0
  clear hr0 hc0
  have HB := Aside0.mk (Below.refl w.heap.size w)
  have H : (if 0 ≤ (l0.length : Int) then (if ((l0.length : Int) : Int).toNat ≤ 35184372088832 then ((reedpenref23_Seen.f k l0).bind fun t132 => (reedpenref23_Forms.l0 k l0 (List.replicate ((l0.length : Int) : Int).toNat 0) t132 0)) else (none)) else (none)) = some r := h
  clear h
  by_cases c2 : 0 ≤ (l0.length : Int)
  · rw [if_pos c2] at H
    have c2b0 := eq_true c2
    have c2b1 : decide (0 ≤ (l0.length : Int)) = true := decide_eq_true c2
    clear c2
    by_cases c3 : ((l0.length : Int) : Int).toNat ≤ 35184372088832
    · rw [if_pos c3] at H
      have c3b0 := eq_true c3
      have c3b1 : decide (((l0.length : Int) : Int).toNat ≤ 35184372088832) = true := decide_eq_true c3
      clear c3
      obtain ⟨y129, hy129⟩ : ∃ y_ : List Int, y_ = (List.replicate ((l0.length : Int) : Int).toNat 0) := ⟨_, rfl⟩
      replace H : ((reedpenref23_Seen.f k l0).bind fun t132 => (reedpenref23_Forms.l0 k l0 y129 t132 0)) = some r := by first | (rw [hy129]; with_reducible exact H) | (have H2_ := (Option.bind_some _ _).symm.trans H; rw [hy129]; with_reducible exact H2_) | (have H2_ := (Option.bind_some _ _).symm.trans H; with_reducible exact H2_) | with_reducible exact H | (rw [hy129]; exact H) | exact H
      have Ny129 := Aside0.mk hy129
      clear hy129
      replace H := Option.bind_eq_some_iff.mp H
      obtain ⟨t132, A40, H⟩ := H
      replace H : (reedpenref23_Forms.l0 k l0 y129 t132 0) = some r := H
      have A4 := Aside0.mk A40
      clear A40
      have H' := Aside0.mk H
      clear H
      go_enter Tryd.func12, Tryd.ntmps12
      go_wp2_with (first | ((with_reducible refine gate_dst (N := 12) rfl ?_); refine Kd.R_make (Kd.int .i64) _ 3 rfl (N := 12) rfl 22 _ _ rfl (l0.length : Int) rfl rfl Tryd.underlying22 (.int .i64 0) 8 info3 rfl (by decide) (by omega) 0 (ok := fun _ => True) (okp := fun _ => True) rfl (fun _ hk => hk) trivial (of_decide_eq_true (by first | (with_reducible assumption) | assumption)) (Nat.le_trans (Nat.mul_le_mul_right _ (of_decide_eq_true (by first | (with_reducible assumption) | assumption) : (l0.length : Int).toNat ≤ 35184372088832)) (by omega)) (Below.refl _ _) (Nat.le_refl _) ?_; intro v130 w5 ho6 hb hg_ hnew_; clear hg_ hnew_; (first | rw [← Ny129.out] at ho6 | (simp only [Int.reduceToNat] at ho6; rw [← Ny129.out] at ho6)); have n0_ := Aside0.mk (Kd.R_lower ho6 (below_size (by repeat (first | (with_reducible first | exact HB.out | apply below_alloc | apply pw_below_drewN | apply below_drew1) | exact HB.out)))); have n1_ := Aside0.mk (below_step (by repeat (first | (with_reducible first | exact HB.out | apply below_alloc | apply pw_below_drewN | apply below_drew1) | exact HB.out)) hb); clear HB; have HO131 := n0_; have HB := n1_; clear n0_ n1_; clear hb ho6) | ((with_reducible refine gate_callee (f := 17) rfl ?_); refine goesL_ (some 14) rfl rfl Tryd.func17 (by kernel_rfl) rfl #[.slice A0 l0.length c0] rfl (by (try simp only [List.map_toArray, List.map_cons, List.map_nil]); first | done | rfl | (simp only [List.length_drop, List.length_take]; rfl)) ?_; (with_reducible refine (reedpenref23_Seen.calls k _ _ l0 t132 _ ?side1 ?side2 A4.out).mono ?_); (case side1 => repeat (first | exact (Kd.C_below HR0.out HB.out) | (with_reducible refine Kd.C_alloc ?_ _) | (with_reducible refine Kd.C_drewN ?_ _) | (with_reducible refine Kd.C_drew ?_))); (case side2 => exact HC0.out); rintro e w7 ⟨v133, rfl, ho0, hb⟩; refine ⟨_, rfl, ?_⟩; have n0_ := Aside0.mk (Kd.R_elder' (by (with_reducible repeat (first | apply Kd.R_alloc | apply Kd.R_drewN | apply Kd.R_drew)); exact HO131.out) (Kd.R_base ho0) hb); have n1_ := Aside0.mk (Kd.R_lower (Kd.R_new' ho0 (Kd.R_lt (by (with_reducible repeat (first | apply Kd.R_alloc | apply Kd.R_drewN | apply Kd.R_drew)); exact HO131.out))) (below_size (by repeat (first | (with_reducible first | exact HB.out | apply below_alloc | apply pw_below_drewN | apply below_drew1) | exact HB.out)))); have n2_ := Aside0.mk (below_step (by repeat (first | (with_reducible first | exact HB.out | apply below_alloc | apply pw_below_drewN | apply below_drew1) | exact HB.out)) hb); clear HO131; clear HB; have HO131 := n0_; have HO134 := n1_; have HB := n2_; clear n0_ n1_ n2_; (try clear hb); (try clear hb2); (try clear hk); (try clear hi); (try clear ho0)))
      go_loopg [5] k (fun kq v5 w' => ∃ (x3_1 : List Int) (x5_1 : Int), v5 = .int .i64 x5_1 ∧ Aside0 (reedpenref23_Forms.l0 kq l0 x3_1 t132 x5_1 = some r) ∧ Aside0 (kq ≤ k) ∧ Aside0 (Kd.R (Kd.int .i64) 3 w' w.heap.size (fun k_ => some k_ ≠ (v133 : Value).ownBlock) v130 x3_1) ∧ Aside0 (Kd.R (Kd.int .i64) 3 w' w.heap.size (fun k_ => some k_ ≠ (v130 : Value).ownBlock) v133 t132) ∧ Aside0 (Below w.heap.size w w'))
      case atStart => exact ⟨(y129), (0), (by first | rfl | (simp; done) | (simp [*]; done)), H', ⟨Nat.le_refl _⟩, ⟨by (with_reducible repeat (first | apply Kd.R_alloc | apply Kd.R_drewN | apply Kd.R_drew)); exact Kd.R_mono HO131.out (fun _ hk => hk.2)⟩, ⟨by (with_reducible repeat (first | apply Kd.R_alloc | apply Kd.R_drewN | apply Kd.R_drew)); exact Kd.R_mono HO134.out (fun _ hk => hk.2)⟩, ⟨by repeat (first | (with_reducible first | exact HB.out | apply below_alloc | apply pw_below_drewN | apply below_drew1) | exact HB.out)⟩⟩
      case round =>
        clear H'
        try clear c1
        try clear c2
        try clear c2b0
        try clear c2b1
        try clear p2
        try clear c3
        try clear c3b0
        try clear c3b1
        obtain ⟨x3_1, x5_1, rfl, HA, HK1, HO_3, HO_4, HB⟩ := hrel
        cases gk with
        | zero => exact absurd HA.out (by simp [reedpenref23_Forms.l0])
        | succ k1 =>
          have H := HA.out
          clear HA
          simp only [reedpenref23_Forms.l0] at H
          by_cases c8 : x5_1 < (t132.length : Int)
          · rw [if_pos c8] at H
            have c8b0 : decide (x5_1 < (t132.length : Int)) = true := decide_eq_true c8
            clear c8
            by_cases c9 : 0 ≤ x5_1
            · rw [if_pos c9] at H
              have c9b0 : decide (0 ≤ x5_1) = true := decide_eq_true c9
              clear c9
              by_cases c10 : 0 ≤ (rd t132 x5_1)
              · rw [if_pos c10] at H
                have c10b0 : decide (0 ≤ (rd t132 x5_1)) = true := decide_eq_true c10
                clear c10
                by_cases c11 : (rd t132 x5_1) < (l0.length : Int)
                · rw [if_pos c11] at H
                  have c11b0 : decide ((rd t132 x5_1) < (l0.length : Int)) = true := decide_eq_true c11
                  clear c11
                  have HC12 := Aside0.mk H
                  clear H
                  obtain ⟨Ao13, co13, eo13⟩ := Kd.R_slice HO_4.out
                  subst eo13
                  have p135 : 0 ≤ (x5_1 : Int) := of_decide_eq_true (by first | (with_reducible assumption) | assumption)
                  have q135 : x5_1 < (t132.length : Int) := of_decide_eq_true (by first | (with_reducible assumption) | assumption)
                  obtain ⟨ad135, e135, hx135_0⟩ := Kd.at_int (Kd.R_reads' HO_4.out).2.2 x5_1 p135 q135
                  cases e135
                  replace p135 := eq_true p135
                  replace q135 := eq_true q135
                  have p136 : 0 ≤ ((rd t132 x5_1) : Int) := of_decide_eq_true (by first | (with_reducible assumption) | assumption)
                  have q136 : (rd t132 x5_1) < (l0.length : Int) := of_decide_eq_true (by first | (with_reducible assumption) | assumption)
                  obtain ⟨ad136, e136, hx136_0⟩ := Kd.at_int HR0.out (rd t132 x5_1) p136 q136
                  cases e136
                  replace hx136_0 := (HB.out.cell (World.block_lt_of_cell? w _ hx136_0)).trans hx136_0
                  replace p136 := eq_true p136
                  replace q136 := eq_true q136
                  go_upto_region 7 with (fail)
                  go_cut [33] (fun v33 wc => ∃ (kq : Nat) (x33_11 : Bool), v33 = .bool x33_11 ∧ Aside0 (reedpenref23_Forms.j1 kq l0 x3_1 t132 x5_1 (rd l0 (rd t132 x5_1)) x33_11 = some r) ∧ Aside0 (kq ≤ k1) ∧ Aside0 (Kd.R (Kd.int .i64) 3 wc w.heap.size (fun k_ => some k_ ≠ ((.slice (some ad135) t132.length co13) : Value).ownBlock) v130 x3_1) ∧ Aside0 (Kd.R (Kd.int .i64) 3 wc w.heap.size (fun k_ => some k_ ≠ (v130 : Value).ownBlock) (.slice (some ad135) t132.length co13) t132) ∧ Aside0 (Below w.heap.size w wc))
                  case first =>
                    have H := HC12.out
                    clear HC12
                    by_cases c14 : (rd l0 (rd t132 x5_1)) < 1
                    · rw [if_pos c14] at H
                      have c14b0 : decide ((rd l0 (rd t132 x5_1)) < 1) = true := decide_eq_true c14
                      clear c14
                      (first | rw [c14b0] | (simp only [i64_w, i32_w]; rw [c14b0]) | skip)
                      have H' := Aside0.mk H
                      clear H
                      go_wp2
                      go_meet
                      case rel => exact ⟨_, (true), (by first | rfl | (simp; done) | (simp [*]; done)), H', ⟨by have := HK1.out; first | omega | exact Nat.le_refl _⟩, ⟨by (with_reducible repeat (first | apply Kd.R_alloc | apply Kd.R_drewN | apply Kd.R_drew)); exact HO_3.out⟩, ⟨by (with_reducible repeat (first | apply Kd.R_alloc | apply Kd.R_drewN | apply Kd.R_drew)); exact HO_4.out⟩, ⟨by repeat (first | (with_reducible first | exact HB.out | apply below_alloc | apply pw_below_drewN | apply below_drew1) | exact HB.out)⟩⟩
                    · rw [if_neg c14] at H
                      have c14b0 : decide ((rd l0 (rd t132 x5_1)) < 1) = false := decide_eq_false c14
                      clear c14
                      (first | rw [c14b0] | (simp only [i64_w, i32_w]; rw [c14b0]) | skip)
                      have H' := Aside0.mk H
                      clear H
                      go_wp2
                      go_meet
                      case rel => exact ⟨_, (decide ((rd l0 (rd t132 x5_1)) > 3)), (by first | rfl | (simp; done) | (simp [*]; done)), H', ⟨by have := HK1.out; first | omega | exact Nat.le_refl _⟩, ⟨by (with_reducible repeat (first | apply Kd.R_alloc | apply Kd.R_drewN | apply Kd.R_drew)); exact HO_3.out⟩, ⟨by (with_reducible repeat (first | apply Kd.R_alloc | apply Kd.R_drewN | apply Kd.R_drew)); exact HO_4.out⟩, ⟨by repeat (first | (with_reducible first | exact HB.out | apply below_alloc | apply pw_below_drewN | apply below_drew1) | exact HB.out)⟩⟩
                  case rest =>
                    clear HC12
                    try clear c1
                    try clear p1
                    try clear q1
                    try clear hx1
                    try clear c2
                    try clear c2b0
                    try clear c2b1
                    try clear p2
                    try clear c3
                    try clear c3b0
                    try clear c3b1
                    try clear c8
                    try clear c8b0
                    try clear c9
                    try clear c9b0
                    try clear c10
                    try clear c10b0
                    try clear c11
                    try clear c11b0
                    try clear c12
                    try clear p13
                    try clear q13
                    try clear hx13
                    try clear c14
                    try clear c14b0
                    try clear hx135_0
                    try clear hx136_0
                    try clear p135
                    try clear p136
                    try clear p2
                    try clear q135
                    try clear q136
                    obtain ⟨kq, x33_11, rfl, HA, HJ11, HO_3, HO_4, HB⟩ := hcut
                    cases kq with
                    | zero => exact absurd HA.out (by simp [reedpenref23_Forms.j1])
                    | succ kj11 =>
                      have H := HA.out
                      clear HA
                      simp only [reedpenref23_Forms.j1] at H
                      by_cases c15 : x33_11 = true
                      · subst c15
                        have H1 : (reedpenref23_Forms.l0 kj11 l0 x3_1 t132 (wrap64 (x5_1 + 1))) = some r := by rw [if_pos rfl] at H; exact H
                        clear H
                        have H := H1
                        clear H1
                        have H' := Aside0.mk H
                        clear H
                        go_wp2
                        go_roundg kj11
                        case measure => have := HK1.out; have := HJ11.out; omega
                        case rel => exact ⟨(x3_1), (wrap64 (x5_1 + 1)), (by first | rfl | (simp; done) | (simp [*]; done)), H', ⟨by have := HK1.out; have := HJ11.out; omega⟩, ⟨by (with_reducible repeat (first | apply Kd.R_alloc | apply Kd.R_drewN | apply Kd.R_drew)); exact HO_3.out⟩, ⟨by (with_reducible repeat (first | apply Kd.R_alloc | apply Kd.R_drewN | apply Kd.R_drew)); exact HO_4.out⟩, ⟨by repeat (first | (with_reducible first | exact HB.out | apply below_alloc | apply pw_below_drewN | apply below_drew1) | exact HB.out)⟩⟩
                      · replace c15 := Bool.eq_false_iff.mpr c15
                        subst c15
                        have H1 : (if x5_1 > 0 then (if 0 ≤ (wrap64 (x5_1 - 1)) then (if (wrap64 (x5_1 - 1)) < (t132.length : Int) then (if 0 ≤ (rd t132 (wrap64 (x5_1 - 1))) then (if (rd t132 (wrap64 (x5_1 - 1))) < (l0.length : Int) then ((reedpenref23_Joins.f (rd l0 (rd t132 (wrap64 (x5_1 - 1)))) (rd l0 (rd t132 x5_1))).bind fun t139 => (reedpenref23_Forms.j2 kj11 l0 x3_1 t132 x5_1 (rd l0 (rd t132 x5_1)) t139)) else (none)) else (none)) else (none)) else (none)) else (reedpenref23_Forms.j2 kj11 l0 x3_1 t132 x5_1 (rd l0 (rd t132 x5_1)) false)) = some r := by rw [if_neg (show ¬ (false = true) by decide)] at H; exact H
                        clear H
                        have H := H1
                        clear H1
                        have HC16 := Aside0.mk H
                        clear H
                        go_upto_region 8 with (fail)
                        go_cut [7] (fun v7 wc => ∃ (kq : Nat) (x7_15 : Bool), v7 = .bool x7_15 ∧ Aside0 (reedpenref23_Forms.j2 kq l0 x3_1 t132 x5_1 (rd l0 (rd t132 x5_1)) x7_15 = some r) ∧ Aside0 (kq ≤ kj11) ∧ Aside0 (Kd.R (Kd.int .i64) 3 wc w.heap.size (fun k_ => some k_ ≠ ((.slice (some ad135) t132.length co13) : Value).ownBlock) v130 x3_1) ∧ Aside0 (Kd.R (Kd.int .i64) 3 wc w.heap.size (fun k_ => some k_ ≠ (v130 : Value).ownBlock) (.slice (some ad135) t132.length co13) t132) ∧ Aside0 (Below w.heap.size w wc))
                        case first =>
                          have H := HC16.out
                          clear HC16
                          by_cases c17 : x5_1 > 0
                          · rw [if_pos c17] at H
                            have c17b0 : decide (0 < x5_1) = true := decide_eq_true c17
                            clear c17
                            (first | rw [c17b0] | (simp only [i64_w, i32_w]; rw [c17b0]) | skip)
                            obtain ⟨ji18, hji18⟩ : ∃ j_ : Int, (wrap64 (x5_1 - 1)) = j_ := ⟨_, rfl⟩
                            replace H : (if 0 ≤ (ji18) then (if (ji18) < (t132.length : Int) then (if 0 ≤ (rd t132 (ji18)) then (if (rd t132 (ji18)) < (l0.length : Int) then ((reedpenref23_Joins.f (rd l0 (rd t132 (ji18))) (rd l0 (rd t132 x5_1))).bind fun t139 => (reedpenref23_Forms.j2 kj11 l0 x3_1 t132 x5_1 (rd l0 (rd t132 x5_1)) t139)) else (none)) else (none)) else (none)) else (none)) = some r := by first | (rw [hji18] at H; exact H) | (simp only [hji18] at H ⊢; exact H)
                            have hji18w : (IntKind.i64.wrap (x5_1 - 1)) = ji18 := (i64_w _).trans hji18
                            by_cases c19 : 0 ≤ (ji18)
                            · rw [if_pos c19] at H
                              have c19b0 : decide (0 ≤ (ji18)) = true := decide_eq_true c19
                              clear c19
                              by_cases c20 : (ji18) < (t132.length : Int)
                              · rw [if_pos c20] at H
                                have c20b0 : decide ((ji18) < (t132.length : Int)) = true := decide_eq_true c20
                                clear c20
                                by_cases c21 : 0 ≤ (rd t132 (ji18))
                                · rw [if_pos c21] at H
                                  have c21b0 : decide (0 ≤ (rd t132 (ji18))) = true := decide_eq_true c21
                                  clear c21
                                  by_cases c22 : (rd t132 (ji18)) < (l0.length : Int)
                                  · rw [if_pos c22] at H
                                    have c22b0 : decide ((rd t132 (ji18)) < (l0.length : Int)) = true := decide_eq_true c22
                                    clear c22
                                    replace H := Option.bind_eq_some_iff.mp H
                                    obtain ⟨t139, A230, H⟩ := H
                                    replace H : (reedpenref23_Forms.j2 kj11 l0 x3_1 t132 x5_1 (rd l0 (rd t132 x5_1)) t139) = some r := H
                                    have A23 := Aside0.mk A230
                                    clear A230
                                    have H' := Aside0.mk H
                                    clear H
                                    have p137 : 0 ≤ ((ji18) : Int) := of_decide_eq_true (by first | (with_reducible assumption) | assumption)
                                    have q137 : (ji18) < (t132.length : Int) := of_decide_eq_true (by first | (with_reducible assumption) | assumption)
                                    obtain ⟨ad137, e137, hx137_0⟩ := Kd.at_int (Kd.R_reads' HO_4.out).2.2 (ji18) p137 q137
                                    obtain rfl : ad135 = ad137 := (by injection e137)
                                    replace p137 := eq_true p137
                                    replace q137 := eq_true q137
                                    have p138 : 0 ≤ ((rd t132 (ji18)) : Int) := of_decide_eq_true (by first | (with_reducible assumption) | assumption)
                                    have q138 : (rd t132 (ji18)) < (l0.length : Int) := of_decide_eq_true (by first | (with_reducible assumption) | assumption)
                                    obtain ⟨ad138, e138, hx138_0⟩ := Kd.at_int HR0.out (rd t132 (ji18)) p138 q138
                                    obtain rfl : ad136 = ad138 := (by injection e138)
                                    replace hx138_0 := (HB.out.cell (World.block_lt_of_cell? w _ hx138_0)).trans hx138_0
                                    replace p138 := eq_true p138
                                    replace q138 := eq_true q138
                                    go_wp2_with (first | (go_at_call 9; (with_reducible refine (reedpenref23_Joins.calls (rd l0 (rd t132 (ji18))) (rd l0 (rd t132 x5_1)) t139 _ A23.out).mono ?_); rintro e w' ⟨rfl, ⟨nd, rfl⟩⟩))
                                    go_meet
                                    case rel => exact ⟨_, (t139), (by first | rfl | (simp; done) | (simp [*]; done)), H', ⟨by have := HK1.out; have := HJ11.out; first | omega | exact Nat.le_refl _⟩, ⟨by (with_reducible repeat (first | apply Kd.R_alloc | apply Kd.R_drewN | apply Kd.R_drew)); exact HO_3.out⟩, ⟨by (with_reducible repeat (first | apply Kd.R_alloc | apply Kd.R_drewN | apply Kd.R_drew)); exact HO_4.out⟩, ⟨by repeat (first | (with_reducible first | exact HB.out | apply below_alloc | apply pw_below_drewN | apply below_drew1) | exact HB.out)⟩⟩
                                  · rw [if_neg c22] at H
                                    exact absurd H (by simp)
                                · rw [if_neg c21] at H
                                  exact absurd H (by simp)
                              · rw [if_neg c20] at H
                                exact absurd H (by simp)
                            · rw [if_neg c19] at H
                              exact absurd H (by simp)
                          · rw [if_neg c17] at H
                            have c17b0 : decide (0 < x5_1) = false := decide_eq_false c17
                            clear c17
                            (first | rw [c17b0] | (simp only [i64_w, i32_w]; rw [c17b0]) | skip)
                            have H' := Aside0.mk H
                            clear H
                            go_wp2
                            go_meet
                            case rel => exact ⟨_, (false), (by first | rfl | (simp; done) | (simp [*]; done)), H', ⟨by have := HK1.out; have := HJ11.out; first | omega | exact Nat.le_refl _⟩, ⟨by (with_reducible repeat (first | apply Kd.R_alloc | apply Kd.R_drewN | apply Kd.R_drew)); exact HO_3.out⟩, ⟨by (with_reducible repeat (first | apply Kd.R_alloc | apply Kd.R_drewN | apply Kd.R_drew)); exact HO_4.out⟩, ⟨by repeat (first | (with_reducible first | exact HB.out | apply below_alloc | apply pw_below_drewN | apply below_drew1) | exact HB.out)⟩⟩
                        case rest =>
                          clear HC16
                          try clear c1
                          try clear p1
                          try clear q1
                          try clear hx1
                          try clear c2
                          try clear c2b0
                          try clear c2b1
                          try clear p2
                          try clear c3
                          try clear c3b0
                          try clear c3b1
                          try clear p6
                          try clear c8
                          try clear c8b0
                          try clear c9
                          try clear c9b0
                          try clear c10
                          try clear c10b0
                          try clear c11
                          try clear c11b0
                          try clear c12
                          try clear p13
                          try clear q13
                          try clear hx13
                          try clear c14
                          try clear c14b0
                          try clear c15
                          try clear c17
                          try clear c17b0
                          try clear c19
                          try clear c19b0
                          try clear c20
                          try clear c20b0
                          try clear c21
                          try clear c21b0
                          try clear c22
                          try clear c22b0
                          try clear hx135_0
                          try clear hx136_0
                          try clear hx137_0
                          try clear hx138_0
                          try clear p1
                          try clear p13
                          try clear p135
                          try clear p136
                          try clear p137
                          try clear p138
                          try clear p2
                          try clear q1
                          try clear q13
                          try clear q135
                          try clear q136
                          try clear q137
                          try clear q138
                          obtain ⟨kq, x7_15, rfl, HA, HJ15, HO_3, HO_4, HB⟩ := hcut
                          cases kq with
                          | zero => exact absurd HA.out (by simp [reedpenref23_Forms.j2])
                          | succ kj15 =>
                            have H := HA.out
                            clear HA
                            simp only [reedpenref23_Forms.j2] at H
                            have HC24 := Aside0.mk H
                            clear H
                            go_upto_region 9 with (fail)
                            go_cut [8] (fun v8 wc => ∃ (kq : Nat) (x8_23 : Bool), v8 = .bool x8_23 ∧ Aside0 (reedpenref23_Forms.j3 kq l0 x3_1 t132 x5_1 x7_15 x8_23 = some r) ∧ Aside0 (kq ≤ kj15) ∧ Aside0 (Kd.R (Kd.int .i64) 3 wc w.heap.size (fun k_ => some k_ ≠ ((.slice (some ad135) t132.length co13) : Value).ownBlock) v130 x3_1) ∧ Aside0 (Kd.R (Kd.int .i64) 3 wc w.heap.size (fun k_ => some k_ ≠ (v130 : Value).ownBlock) (.slice (some ad135) t132.length co13) t132) ∧ Aside0 (Below w.heap.size w wc))
                            case first =>
                              have H := HC24.out
                              clear HC24
                              by_cases c25 : (wrap64 (x5_1 + 1)) < (t132.length : Int)
                              · rw [if_pos c25] at H
                                have c25b0 : decide ((wrap64 (x5_1 + 1)) < (t132.length : Int)) = true := decide_eq_true c25
                                clear c25
                                (first | rw [c25b0] | (simp only [i64_w, i32_w]; rw [c25b0]) | skip)
                                obtain ⟨ji26, hji26⟩ : ∃ j_ : Int, (wrap64 (x5_1 + 1)) = j_ := ⟨_, rfl⟩
                                replace H : (if 0 ≤ (ji26) then (if 0 ≤ (rd t132 (ji26)) then (if (rd t132 (ji26)) < (l0.length : Int) then ((reedpenref23_Joins.f (rd l0 (rd t132 x5_1)) (rd l0 (rd t132 (ji26)))).bind fun t142 => (reedpenref23_Forms.j3 kj15 l0 x3_1 t132 x5_1 x7_15 t142)) else (none)) else (none)) else (none)) = some r := by first | (rw [hji26] at H; exact H) | (simp only [hji26] at H ⊢; exact H)
                                (try rw [hji26] at c25b0)
                                have hji26w : (IntKind.i64.wrap (x5_1 + 1)) = ji26 := (i64_w _).trans hji26
                                by_cases c27 : 0 ≤ (ji26)
                                · rw [if_pos c27] at H
                                  have c27b0 : decide (0 ≤ (ji26)) = true := decide_eq_true c27
                                  clear c27
                                  by_cases c28 : 0 ≤ (rd t132 (ji26))
                                  · rw [if_pos c28] at H
                                    have c28b0 : decide (0 ≤ (rd t132 (ji26))) = true := decide_eq_true c28
                                    clear c28
                                    by_cases c29 : (rd t132 (ji26)) < (l0.length : Int)
                                    · rw [if_pos c29] at H
                                      have c29b0 : decide ((rd t132 (ji26)) < (l0.length : Int)) = true := decide_eq_true c29
                                      clear c29
                                      replace H := Option.bind_eq_some_iff.mp H
                                      obtain ⟨t142, A300, H⟩ := H
                                      replace H : (reedpenref23_Forms.j3 kj15 l0 x3_1 t132 x5_1 x7_15 t142) = some r := H
                                      have A30 := Aside0.mk A300
                                      clear A300
                                      have H' := Aside0.mk H
                                      clear H
                                      have p140 : 0 ≤ ((ji26) : Int) := of_decide_eq_true (by first | (with_reducible assumption) | assumption)
                                      have q140 : (ji26) < (t132.length : Int) := of_decide_eq_true (by first | (with_reducible assumption) | assumption)
                                      obtain ⟨ad140, e140, hx140_0⟩ := Kd.at_int (Kd.R_reads' HO_4.out).2.2 (ji26) p140 q140
                                      obtain rfl : ad135 = ad140 := (by injection e140)
                                      replace p140 := eq_true p140
                                      replace q140 := eq_true q140
                                      have p141 : 0 ≤ ((rd t132 (ji26)) : Int) := of_decide_eq_true (by first | (with_reducible assumption) | assumption)
                                      have q141 : (rd t132 (ji26)) < (l0.length : Int) := of_decide_eq_true (by first | (with_reducible assumption) | assumption)
                                      obtain ⟨ad141, e141, hx141_0⟩ := Kd.at_int HR0.out (rd t132 (ji26)) p141 q141
                                      obtain rfl : ad136 = ad141 := (by injection e141)
                                      replace hx141_0 := (HB.out.cell (World.block_lt_of_cell? w _ hx141_0)).trans hx141_0
                                      replace p141 := eq_true p141
                                      replace q141 := eq_true q141
                                      go_wp2_with (first | (go_at_call 9; (with_reducible refine (reedpenref23_Joins.calls (rd l0 (rd t132 x5_1)) (rd l0 (rd t132 (ji26))) t142 _ A30.out).mono ?_); rintro e w' ⟨rfl, ⟨nd, rfl⟩⟩))
                                      go_meet
                                      case rel => exact ⟨_, (t142), (by first | rfl | (simp; done) | (simp [*]; done)), H', ⟨by have := HK1.out; have := HJ11.out; have := HJ15.out; first | omega | exact Nat.le_refl _⟩, ⟨by (with_reducible repeat (first | apply Kd.R_alloc | apply Kd.R_drewN | apply Kd.R_drew)); exact HO_3.out⟩, ⟨by (with_reducible repeat (first | apply Kd.R_alloc | apply Kd.R_drewN | apply Kd.R_drew)); exact HO_4.out⟩, ⟨by repeat (first | (with_reducible first | exact HB.out | apply below_alloc | apply pw_below_drewN | apply below_drew1) | exact HB.out)⟩⟩
                                    · rw [if_neg c29] at H
                                      exact absurd H (by simp)
                                  · rw [if_neg c28] at H
                                    exact absurd H (by simp)
                                · rw [if_neg c27] at H
                                  exact absurd H (by simp)
                              · rw [if_neg c25] at H
                                have c25b0 : decide ((wrap64 (x5_1 + 1)) < (t132.length : Int)) = false := decide_eq_false c25
                                clear c25
                                (first | rw [c25b0] | (simp only [i64_w, i32_w]; rw [c25b0]) | skip)
                                have H' := Aside0.mk H
                                clear H
                                go_wp2
                                go_meet
                                case rel => exact ⟨_, (false), (by first | rfl | (simp; done) | (simp [*]; done)), H', ⟨by have := HK1.out; have := HJ11.out; have := HJ15.out; first | omega | exact Nat.le_refl _⟩, ⟨by (with_reducible repeat (first | apply Kd.R_alloc | apply Kd.R_drewN | apply Kd.R_drew)); exact HO_3.out⟩, ⟨by (with_reducible repeat (first | apply Kd.R_alloc | apply Kd.R_drewN | apply Kd.R_drew)); exact HO_4.out⟩, ⟨by repeat (first | (with_reducible first | exact HB.out | apply below_alloc | apply pw_below_drewN | apply below_drew1) | exact HB.out)⟩⟩
                            case rest =>
                              clear HC24
                              try clear c1
                              try clear p1
                              try clear q1
                              try clear hx1
                              try clear c2
                              try clear c2b0
                              try clear c2b1
                              try clear p2
                              try clear c3
                              try clear c3b0
                              try clear c3b1
                              try clear p6
                              try clear c8
                              try clear c8b0
                              try clear c9
                              try clear c9b0
                              try clear c10
                              try clear c10b0
                              try clear c11
                              try clear c11b0
                              try clear c12
                              try clear p13
                              try clear q13
                              try clear hx13
                              try clear c14
                              try clear c14b0
                              try clear p14
                              try clear q14
                              try clear hx14
                              try clear c15
                              try clear c17
                              try clear c17b0
                              try clear c19
                              try clear c19b0
                              try clear c20
                              try clear c20b0
                              try clear c21
                              try clear c21b0
                              try clear c22
                              try clear c22b0
                              try clear c25
                              try clear c25b0
                              try clear c27
                              try clear c27b0
                              try clear c28
                              try clear c28b0
                              try clear c29
                              try clear c29b0
                              try clear hx135_0
                              try clear hx136_0
                              try clear hx137_0
                              try clear hx138_0
                              try clear hx140_0
                              try clear hx141_0
                              try clear p1
                              try clear p13
                              try clear p135
                              try clear p136
                              try clear p137
                              try clear p138
                              try clear p140
                              try clear p141
                              try clear p2
                              try clear p6
                              try clear q1
                              try clear q13
                              try clear q135
                              try clear q136
                              try clear q137
                              try clear q138
                              try clear q140
                              try clear q141
                              obtain ⟨kq, x8_23, rfl, HA, HJ23, HO_3, HO_4, HB⟩ := hcut
                              cases kq with
                              | zero => exact absurd HA.out (by simp [reedpenref23_Forms.j3])
                              | succ kj23 =>
                                have H := HA.out
                                clear HA
                                simp only [reedpenref23_Forms.j3] at H
                                have HC31 := Aside0.mk H
                                clear H
                                go_upto_region 11 with (fail)
                                go_cut [68] (fun v68 wc => ∃ (kq : Nat) (x68_30 : Bool), v68 = .bool x68_30 ∧ Aside0 (reedpenref23_Forms.j4 kq l0 x3_1 t132 x5_1 x7_15 x8_23 1 x68_30 = some r) ∧ Aside0 (kq ≤ kj23) ∧ Aside0 (Kd.R (Kd.int .i64) 3 wc w.heap.size (fun k_ => some k_ ≠ ((.slice (some ad135) t132.length co13) : Value).ownBlock) v130 x3_1) ∧ Aside0 (Kd.R (Kd.int .i64) 3 wc w.heap.size (fun k_ => some k_ ≠ (v130 : Value).ownBlock) (.slice (some ad135) t132.length co13) t132) ∧ Aside0 (Below w.heap.size w wc))
                                case first =>
                                  have H := HC31.out
                                  clear HC31
                                  by_cases c32 : x7_15 = true
                                  · subst c32
                                    have H1 : (reedpenref23_Forms.j4 kj23 l0 x3_1 t132 x5_1 true x8_23 1 x8_23) = some r := by rw [if_pos rfl] at H; exact H
                                    clear H
                                    have H := H1
                                    clear H1
                                    have H' := Aside0.mk H
                                    clear H
                                    go_wp2
                                    go_meet
                                    case rel => exact ⟨_, (x8_23), (by first | rfl | (simp; done) | (simp [*]; done)), H', ⟨by have := HK1.out; have := HJ11.out; have := HJ15.out; have := HJ23.out; first | omega | exact Nat.le_refl _⟩, ⟨by (with_reducible repeat (first | apply Kd.R_alloc | apply Kd.R_drewN | apply Kd.R_drew)); exact HO_3.out⟩, ⟨by (with_reducible repeat (first | apply Kd.R_alloc | apply Kd.R_drewN | apply Kd.R_drew)); exact HO_4.out⟩, ⟨by repeat (first | (with_reducible first | exact HB.out | apply below_alloc | apply pw_below_drewN | apply below_drew1) | exact HB.out)⟩⟩
                                  · replace c32 := Bool.eq_false_iff.mpr c32
                                    subst c32
                                    have H1 : (reedpenref23_Forms.j4 kj23 l0 x3_1 t132 x5_1 false x8_23 1 false) = some r := by rw [if_neg (show ¬ (false = true) by decide)] at H; exact H
                                    clear H
                                    have H := H1
                                    clear H1
                                    have H' := Aside0.mk H
                                    clear H
                                    go_wp2
                                    go_meet
                                    case rel => exact ⟨_, (false), (by first | rfl | (simp; done) | (simp [*]; done)), H', ⟨by have := HK1.out; have := HJ11.out; have := HJ15.out; have := HJ23.out; first | omega | exact Nat.le_refl _⟩, ⟨by (with_reducible repeat (first | apply Kd.R_alloc | apply Kd.R_drewN | apply Kd.R_drew)); exact HO_3.out⟩, ⟨by (with_reducible repeat (first | apply Kd.R_alloc | apply Kd.R_drewN | apply Kd.R_drew)); exact HO_4.out⟩, ⟨by repeat (first | (with_reducible first | exact HB.out | apply below_alloc | apply pw_below_drewN | apply below_drew1) | exact HB.out)⟩⟩
                                case rest =>
                                  clear HC31
                                  try clear c1
                                  try clear p1
                                  try clear q1
                                  try clear hx1
                                  try clear c2
                                  try clear c2b0
                                  try clear c2b1
                                  try clear p2
                                  try clear c3
                                  try clear c3b0
                                  try clear c3b1
                                  try clear p6
                                  try clear c8
                                  try clear c8b0
                                  try clear c9
                                  try clear c9b0
                                  try clear c10
                                  try clear c10b0
                                  try clear c11
                                  try clear c11b0
                                  try clear c12
                                  try clear p13
                                  try clear q13
                                  try clear hx13
                                  try clear c14
                                  try clear c14b0
                                  try clear p14
                                  try clear q14
                                  try clear hx14
                                  try clear c15
                                  try clear c17
                                  try clear c17b0
                                  try clear c19
                                  try clear c19b0
                                  try clear c20
                                  try clear c20b0
                                  try clear c21
                                  try clear c21b0
                                  try clear c22
                                  try clear c22b0
                                  try clear c25
                                  try clear c25b0
                                  try clear c27
                                  try clear c27b0
                                  try clear c28
                                  try clear c28b0
                                  try clear c29
                                  try clear c29b0
                                  try clear c32
                                  try clear hx135_0
                                  try clear hx136_0
                                  try clear hx137_0
                                  try clear hx138_0
                                  try clear hx140_0
                                  try clear hx141_0
                                  try clear p1
                                  try clear p13
                                  try clear p135
                                  try clear p136
                                  try clear p137
                                  try clear p138
                                  try clear p14
                                  try clear p140
                                  try clear p141
                                  try clear p2
                                  try clear p6
                                  try clear q1
                                  try clear q13
                                  try clear q135
                                  try clear q136
                                  try clear q137
                                  try clear q138
                                  try clear q14
                                  try clear q140
                                  try clear q141
                                  obtain ⟨kq, x68_30, rfl, HA, HJ30, HO_3, HO_4, HB⟩ := hcut
                                  cases kq with
                                  | zero => exact absurd HA.out (by simp [reedpenref23_Forms.j4])
                                  | succ kj30 =>
                                    have H := HA.out
                                    clear HA
                                    simp only [reedpenref23_Forms.j4] at H
                                    by_cases c33 : x68_30 = true
                                    · subst c33
                                      have H1 : (if 0 ≤ x5_1 then (if x5_1 < (t132.length : Int) then (if 0 ≤ (rd t132 x5_1) then (if (rd t132 x5_1) < (x3_1.length : Int) then (reedpenref23_Forms.l0 kj30 l0 (x3_1.set ((rd t132 x5_1) : Int).toNat 3) t132 (wrap64 (x5_1 + 1))) else (none)) else (none)) else (none)) else (none)) = some r := by rw [if_pos rfl] at H; exact H
                                      clear H
                                      have H := H1
                                      clear H1
                                      by_cases c34 : 0 ≤ x5_1
                                      · rw [if_pos c34] at H
                                        have c34b0 : decide (0 ≤ x5_1) = true := decide_eq_true c34
                                        clear c34
                                        by_cases c35 : x5_1 < (t132.length : Int)
                                        · rw [if_pos c35] at H
                                          have c35b0 : decide (x5_1 < (t132.length : Int)) = true := decide_eq_true c35
                                          clear c35
                                          by_cases c36 : 0 ≤ (rd t132 x5_1)
                                          · rw [if_pos c36] at H
                                            have c36b0 : decide (0 ≤ (rd t132 x5_1)) = true := decide_eq_true c36
                                            clear c36
                                            by_cases c37 : (rd t132 x5_1) < (x3_1.length : Int)
                                            · rw [if_pos c37] at H
                                              have c37b0 : decide ((rd t132 x5_1) < (x3_1.length : Int)) = true := decide_eq_true c37
                                              clear c37
                                              obtain ⟨y144, hy144⟩ : ∃ y_ : List Int, y_ = (x3_1.set ((rd t132 x5_1) : Int).toNat 3) := ⟨_, rfl⟩
                                              replace H : (reedpenref23_Forms.l0 kj30 l0 y144 t132 (wrap64 (x5_1 + 1))) = some r := by first | (rw [hy144]; with_reducible exact H) | (have H2_ := (Option.bind_some _ _).symm.trans H; rw [hy144]; with_reducible exact H2_) | (have H2_ := (Option.bind_some _ _).symm.trans H; with_reducible exact H2_) | with_reducible exact H | (rw [hy144]; exact H) | exact H
                                              have Ny144 := Aside0.mk hy144
                                              clear hy144
                                              have H' := Aside0.mk H
                                              clear H
                                              have p143 : 0 ≤ (x5_1 : Int) := of_decide_eq_true (by first | (with_reducible assumption) | assumption)
                                              have q143 : x5_1 < (t132.length : Int) := of_decide_eq_true (by first | (with_reducible assumption) | assumption)
                                              obtain ⟨ad143, e143, hx143_0⟩ := Kd.at_int (Kd.R_reads' HO_4.out).2.2 x5_1 p143 q143
                                              obtain rfl : ad135 = ad143 := (by injection e143)
                                              replace p143 := eq_true p143
                                              replace q143 := eq_true q143
                                              have p38 : 0 ≤ ((rd t132 x5_1) : Int) := of_decide_eq_true (by first | (with_reducible assumption) | assumption)
                                              have q38 : ((rd t132 x5_1) : Int) < ((x3_1.length : Int) : Int) := of_decide_eq_true (by first | (with_reducible assumption) | assumption)
                                              obtain ⟨go38, co38, eo38, gb38, gl38, cl38, HG38⟩ := Kd.R_form HO_3.out (by omega)
                                              (first | cases eo38 | (injection eo38 with ea_ en_ ec_; (first | subst ea_ | (injection ea_ with ea_; subst ea_)); subst ec_; clear en_))
                                              have GB38 := Aside0.mk gb38
                                              have GG38 := Aside0.mk HG38
                                              clear gb38 gl38 HG38
                                              obtain ⟨hx38_0, hf38_0⟩ := Kd.R_celln 0 HO_3.out ((rd t132 x5_1) : Int) p38 q38
                                              replace p38 := eq_true p38
                                              replace q38 := eq_true q38
                                              have HP39 := Kd.R_putg HO_3.out ((rd t132 x5_1) : Int) 3
                                              go_wp2_with (first | ((with_reducible refine gate_store (t := 3) (p := 77) rfl ?_); refine store_event (t := 3) (p := 77) (v := ?vo_w40) (w1 := (wc.setCell ⟨go38, ((rd t132 x5_1) : Int).toNat, none⟩ (.int .i64 3))) ?hg ?ho ?hn ?hr ?_; (case ho => rfl); (case hg => rfl); (case hn => rfl); (case hr => first | (go_simp; done) | (go_simp; rfl)); intro w40 hw; have hg : wc.grownBy w40 (some go38) := (by rw [hw]; exact HP39.2); have hp_ : Kd.R (Kd.int .i64) 3 w40 w.heap.size (fun k_ => some k_ ≠ (.slice (some ad135) t132.length co13 : Value).ownBlock) (.slice (some ⟨go38, 0, none⟩) x3_1.length co38) y144 := (by rw [hw, Ny144.out]; exact HP39.1); clear HP39; have n0_ := Aside0.mk (hp_); have n1_ := Aside0.mk (Kd.R_after (v := (.slice (some ⟨go38, 0, none⟩) x3_1.length co38)) (v1 := (.slice (some ⟨go38, 0, none⟩) x3_1.length co38)) (ok := (fun _ => True)) (by (with_reducible repeat (first | apply Kd.R_alloc | apply Kd.R_drewN | apply Kd.R_drew)); exact Kd.R_mono HO_4.out (fun _ hk => ⟨trivial, hk⟩)) hg (.inl rfl)); have n2_ := Aside0.mk ((by rw [hw]; exact below_set (HB.out) GB38.out : Below w.heap.size w w40)); clear HO_3; clear HO_4; clear HB; have HO_3 := n0_; have HO_4 := n1_; have HB := n2_; clear n0_ n1_ n2_; clear hg hw hp_))
                                              go_roundg kj30
                                              case measure => have := HK1.out; have := HJ11.out; have := HJ15.out; have := HJ23.out; have := HJ30.out; omega
                                              case rel => exact ⟨(y144), (wrap64 (x5_1 + 1)), (by first | rfl | (simp; done) | (simp [*]; done)), H', ⟨by have := HK1.out; have := HJ11.out; have := HJ15.out; have := HJ23.out; have := HJ30.out; omega⟩, ⟨by (with_reducible repeat (first | apply Kd.R_alloc | apply Kd.R_drewN | apply Kd.R_drew)); exact HO_3.out⟩, ⟨by (with_reducible repeat (first | apply Kd.R_alloc | apply Kd.R_drewN | apply Kd.R_drew)); exact Kd.R_mono HO_4.out (fun _ hk => hk.2)⟩, ⟨by repeat (first | (with_reducible first | exact HB.out | apply below_alloc | apply pw_below_drewN | apply below_drew1) | exact HB.out)⟩⟩
                                            · rw [if_neg c37] at H
                                              exact absurd H (by simp)
                                          · rw [if_neg c36] at H
                                            exact absurd H (by simp)
                                        · rw [if_neg c35] at H
                                          exact absurd H (by simp)
                                      · rw [if_neg c34] at H
                                        exact absurd H (by simp)
                                    · replace c33 := Bool.eq_false_iff.mpr c33
                                      subst c33
                                      have H1 : (if x7_15 = true then (if 0 ≤ x5_1 then (if x5_1 < (t132.length : Int) then (if 0 ≤ (rd t132 x5_1) then (if (rd t132 x5_1) < (x3_1.length : Int) then (reedpenref23_Forms.l0 kj30 l0 (x3_1.set ((rd t132 x5_1) : Int).toNat 2) t132 (wrap64 (x5_1 + 1))) else (none)) else (none)) else (none)) else (none)) else (if x8_23 = true then (if 0 ≤ x5_1 then (if x5_1 < (t132.length : Int) then (if 0 ≤ (rd t132 x5_1) then (if (rd t132 x5_1) < (x3_1.length : Int) then (reedpenref23_Forms.l0 kj30 l0 (x3_1.set ((rd t132 x5_1) : Int).toNat 4) t132 (wrap64 (x5_1 + 1))) else (none)) else (none)) else (none)) else (none)) else (if 0 ≤ x5_1 then (if x5_1 < (t132.length : Int) then (if 0 ≤ (rd t132 x5_1) then (if (rd t132 x5_1) < (x3_1.length : Int) then (reedpenref23_Forms.l0 kj30 l0 (x3_1.set ((rd t132 x5_1) : Int).toNat 1) t132 (wrap64 (x5_1 + 1))) else (none)) else (none)) else (none)) else (none)))) = some r := by rw [if_neg (show ¬ (false = true) by decide)] at H; exact H
                                      clear H
                                      have H := H1
                                      clear H1
                                      by_cases c41 : x7_15 = true
                                      · subst c41
                                        have H1 : (if 0 ≤ x5_1 then (if x5_1 < (t132.length : Int) then (if 0 ≤ (rd t132 x5_1) then (if (rd t132 x5_1) < (x3_1.length : Int) then (reedpenref23_Forms.l0 kj30 l0 (x3_1.set ((rd t132 x5_1) : Int).toNat 2) t132 (wrap64 (x5_1 + 1))) else (none)) else (none)) else (none)) else (none)) = some r := by rw [if_pos rfl] at H; exact H
                                        clear H
                                        have H := H1
                                        clear H1
                                        by_cases c42 : 0 ≤ x5_1
                                        · rw [if_pos c42] at H
                                          have c42b0 : decide (0 ≤ x5_1) = true := decide_eq_true c42
                                          clear c42
                                          by_cases c43 : x5_1 < (t132.length : Int)
                                          · rw [if_pos c43] at H
                                            have c43b0 : decide (x5_1 < (t132.length : Int)) = true := decide_eq_true c43
                                            clear c43
                                            by_cases c44 : 0 ≤ (rd t132 x5_1)
                                            · rw [if_pos c44] at H
                                              have c44b0 : decide (0 ≤ (rd t132 x5_1)) = true := decide_eq_true c44
                                              clear c44
                                              by_cases c45 : (rd t132 x5_1) < (x3_1.length : Int)
                                              · rw [if_pos c45] at H
                                                have c45b0 : decide ((rd t132 x5_1) < (x3_1.length : Int)) = true := decide_eq_true c45
                                                clear c45
                                                obtain ⟨y146, hy146⟩ : ∃ y_ : List Int, y_ = (x3_1.set ((rd t132 x5_1) : Int).toNat 2) := ⟨_, rfl⟩
                                                replace H : (reedpenref23_Forms.l0 kj30 l0 y146 t132 (wrap64 (x5_1 + 1))) = some r := by first | (rw [hy146]; with_reducible exact H) | (have H2_ := (Option.bind_some _ _).symm.trans H; rw [hy146]; with_reducible exact H2_) | (have H2_ := (Option.bind_some _ _).symm.trans H; with_reducible exact H2_) | with_reducible exact H | (rw [hy146]; exact H) | exact H
                                                have Ny146 := Aside0.mk hy146
                                                clear hy146
                                                have H' := Aside0.mk H
                                                clear H
                                                have p145 : 0 ≤ (x5_1 : Int) := of_decide_eq_true (by first | (with_reducible assumption) | assumption)
                                                have q145 : x5_1 < (t132.length : Int) := of_decide_eq_true (by first | (with_reducible assumption) | assumption)
                                                obtain ⟨ad145, e145, hx145_0⟩ := Kd.at_int (Kd.R_reads' HO_4.out).2.2 x5_1 p145 q145
                                                obtain rfl : ad135 = ad145 := (by injection e145)
                                                replace p145 := eq_true p145
                                                replace q145 := eq_true q145
                                                have p46 : 0 ≤ ((rd t132 x5_1) : Int) := of_decide_eq_true (by first | (with_reducible assumption) | assumption)
                                                have q46 : ((rd t132 x5_1) : Int) < ((x3_1.length : Int) : Int) := of_decide_eq_true (by first | (with_reducible assumption) | assumption)
                                                obtain ⟨go46, co46, eo46, gb46, gl46, cl46, HG46⟩ := Kd.R_form HO_3.out (by omega)
                                                (first | cases eo46 | (injection eo46 with ea_ en_ ec_; (first | subst ea_ | (injection ea_ with ea_; subst ea_)); subst ec_; clear en_))
                                                have GB46 := Aside0.mk gb46
                                                have GG46 := Aside0.mk HG46
                                                clear gb46 gl46 HG46
                                                obtain ⟨hx46_0, hf46_0⟩ := Kd.R_celln 0 HO_3.out ((rd t132 x5_1) : Int) p46 q46
                                                replace p46 := eq_true p46
                                                replace q46 := eq_true q46
                                                have HP47 := Kd.R_putg HO_3.out ((rd t132 x5_1) : Int) 2
                                                go_wp2_with (first | ((with_reducible refine gate_store (t := 3) (p := 77) rfl ?_); refine store_event (t := 3) (p := 77) (v := ?vo_w48) (w1 := (wc.setCell ⟨go46, ((rd t132 x5_1) : Int).toNat, none⟩ (.int .i64 2))) ?hg ?ho ?hn ?hr ?_; (case ho => rfl); (case hg => rfl); (case hn => rfl); (case hr => first | (go_simp; done) | (go_simp; rfl)); intro w48 hw; have hg : wc.grownBy w48 (some go46) := (by rw [hw]; exact HP47.2); have hp_ : Kd.R (Kd.int .i64) 3 w48 w.heap.size (fun k_ => some k_ ≠ (.slice (some ad135) t132.length co13 : Value).ownBlock) (.slice (some ⟨go46, 0, none⟩) x3_1.length co46) y146 := (by rw [hw, Ny146.out]; exact HP47.1); clear HP47; have n0_ := Aside0.mk (hp_); have n1_ := Aside0.mk (Kd.R_after (v := (.slice (some ⟨go46, 0, none⟩) x3_1.length co46)) (v1 := (.slice (some ⟨go46, 0, none⟩) x3_1.length co46)) (ok := (fun _ => True)) (by (with_reducible repeat (first | apply Kd.R_alloc | apply Kd.R_drewN | apply Kd.R_drew)); exact Kd.R_mono HO_4.out (fun _ hk => ⟨trivial, hk⟩)) hg (.inl rfl)); have n2_ := Aside0.mk ((by rw [hw]; exact below_set (HB.out) GB46.out : Below w.heap.size w w48)); clear HO_3; clear HO_4; clear HB; have HO_3 := n0_; have HO_4 := n1_; have HB := n2_; clear n0_ n1_ n2_; clear hg hw hp_))
                                                go_roundg kj30
                                                case measure => have := HK1.out; have := HJ11.out; have := HJ15.out; have := HJ23.out; have := HJ30.out; omega
                                                case rel => exact ⟨(y146), (wrap64 (x5_1 + 1)), (by first | rfl | (simp; done) | (simp [*]; done)), H', ⟨by have := HK1.out; have := HJ11.out; have := HJ15.out; have := HJ23.out; have := HJ30.out; omega⟩, ⟨by (with_reducible repeat (first | apply Kd.R_alloc | apply Kd.R_drewN | apply Kd.R_drew)); exact HO_3.out⟩, ⟨by (with_reducible repeat (first | apply Kd.R_alloc | apply Kd.R_drewN | apply Kd.R_drew)); exact Kd.R_mono HO_4.out (fun _ hk => hk.2)⟩, ⟨by repeat (first | (with_reducible first | exact HB.out | apply below_alloc | apply pw_below_drewN | apply below_drew1) | exact HB.out)⟩⟩
                                              · rw [if_neg c45] at H
                                                exact absurd H (by simp)
                                            · rw [if_neg c44] at H
                                              exact absurd H (by simp)
                                          · rw [if_neg c43] at H
                                            exact absurd H (by simp)
                                        · rw [if_neg c42] at H
                                          exact absurd H (by simp)
                                      · replace c41 := Bool.eq_false_iff.mpr c41
                                        subst c41
                                        have H1 : (if x8_23 = true then (if 0 ≤ x5_1 then (if x5_1 < (t132.length : Int) then (if 0 ≤ (rd t132 x5_1) then (if (rd t132 x5_1) < (x3_1.length : Int) then (reedpenref23_Forms.l0 kj30 l0 (x3_1.set ((rd t132 x5_1) : Int).toNat 4) t132 (wrap64 (x5_1 + 1))) else (none)) else (none)) else (none)) else (none)) else (if 0 ≤ x5_1 then (if x5_1 < (t132.length : Int) then (if 0 ≤ (rd t132 x5_1) then (if (rd t132 x5_1) < (x3_1.length : Int) then (reedpenref23_Forms.l0 kj30 l0 (x3_1.set ((rd t132 x5_1) : Int).toNat 1) t132 (wrap64 (x5_1 + 1))) else (none)) else (none)) else (none)) else (none))) = some r := by rw [if_neg (show ¬ (false = true) by decide)] at H; exact H
                                        clear H
                                        have H := H1
                                        clear H1
                                        by_cases c49 : x8_23 = true
                                        · subst c49
                                          have H1 : (if 0 ≤ x5_1 then (if x5_1 < (t132.length : Int) then (if 0 ≤ (rd t132 x5_1) then (if (rd t132 x5_1) < (x3_1.length : Int) then (reedpenref23_Forms.l0 kj30 l0 (x3_1.set ((rd t132 x5_1) : Int).toNat 4) t132 (wrap64 (x5_1 + 1))) else (none)) else (none)) else (none)) else (none)) = some r := by rw [if_pos rfl] at H; exact H
                                          clear H
                                          have H := H1
                                          clear H1
                                          by_cases c50 : 0 ≤ x5_1
                                          · rw [if_pos c50] at H
                                            have c50b0 : decide (0 ≤ x5_1) = true := decide_eq_true c50
                                            clear c50
                                            by_cases c51 : x5_1 < (t132.length : Int)
                                            · rw [if_pos c51] at H
                                              have c51b0 : decide (x5_1 < (t132.length : Int)) = true := decide_eq_true c51
                                              clear c51
                                              by_cases c52 : 0 ≤ (rd t132 x5_1)
                                              · rw [if_pos c52] at H
                                                have c52b0 : decide (0 ≤ (rd t132 x5_1)) = true := decide_eq_true c52
                                                clear c52
                                                by_cases c53 : (rd t132 x5_1) < (x3_1.length : Int)
                                                · rw [if_pos c53] at H
                                                  have c53b0 : decide ((rd t132 x5_1) < (x3_1.length : Int)) = true := decide_eq_true c53
                                                  clear c53
                                                  obtain ⟨y148, hy148⟩ : ∃ y_ : List Int, y_ = (x3_1.set ((rd t132 x5_1) : Int).toNat 4) := ⟨_, rfl⟩
                                                  replace H : (reedpenref23_Forms.l0 kj30 l0 y148 t132 (wrap64 (x5_1 + 1))) = some r := by first | (rw [hy148]; with_reducible exact H) | (have H2_ := (Option.bind_some _ _).symm.trans H; rw [hy148]; with_reducible exact H2_) | (have H2_ := (Option.bind_some _ _).symm.trans H; with_reducible exact H2_) | with_reducible exact H | (rw [hy148]; exact H) | exact H
                                                  have Ny148 := Aside0.mk hy148
                                                  clear hy148
                                                  have H' := Aside0.mk H
                                                  clear H
                                                  have p147 : 0 ≤ (x5_1 : Int) := of_decide_eq_true (by first | (with_reducible assumption) | assumption)
                                                  have q147 : x5_1 < (t132.length : Int) := of_decide_eq_true (by first | (with_reducible assumption) | assumption)
                                                  obtain ⟨ad147, e147, hx147_0⟩ := Kd.at_int (Kd.R_reads' HO_4.out).2.2 x5_1 p147 q147
                                                  obtain rfl : ad135 = ad147 := (by injection e147)
                                                  replace p147 := eq_true p147
                                                  replace q147 := eq_true q147
                                                  have p54 : 0 ≤ ((rd t132 x5_1) : Int) := of_decide_eq_true (by first | (with_reducible assumption) | assumption)
                                                  have q54 : ((rd t132 x5_1) : Int) < ((x3_1.length : Int) : Int) := of_decide_eq_true (by first | (with_reducible assumption) | assumption)
                                                  obtain ⟨go54, co54, eo54, gb54, gl54, cl54, HG54⟩ := Kd.R_form HO_3.out (by omega)
                                                  (first | cases eo54 | (injection eo54 with ea_ en_ ec_; (first | subst ea_ | (injection ea_ with ea_; subst ea_)); subst ec_; clear en_))
                                                  have GB54 := Aside0.mk gb54
                                                  have GG54 := Aside0.mk HG54
                                                  clear gb54 gl54 HG54
                                                  obtain ⟨hx54_0, hf54_0⟩ := Kd.R_celln 0 HO_3.out ((rd t132 x5_1) : Int) p54 q54
                                                  replace p54 := eq_true p54
                                                  replace q54 := eq_true q54
                                                  have HP55 := Kd.R_putg HO_3.out ((rd t132 x5_1) : Int) 4
                                                  go_wp2_with (first | ((with_reducible refine gate_store (t := 3) (p := 77) rfl ?_); refine store_event (t := 3) (p := 77) (v := ?vo_w56) (w1 := (wc.setCell ⟨go54, ((rd t132 x5_1) : Int).toNat, none⟩ (.int .i64 4))) ?hg ?ho ?hn ?hr ?_; (case ho => rfl); (case hg => rfl); (case hn => rfl); (case hr => first | (go_simp; done) | (go_simp; rfl)); intro w56 hw; have hg : wc.grownBy w56 (some go54) := (by rw [hw]; exact HP55.2); have hp_ : Kd.R (Kd.int .i64) 3 w56 w.heap.size (fun k_ => some k_ ≠ (.slice (some ad135) t132.length co13 : Value).ownBlock) (.slice (some ⟨go54, 0, none⟩) x3_1.length co54) y148 := (by rw [hw, Ny148.out]; exact HP55.1); clear HP55; have n0_ := Aside0.mk (hp_); have n1_ := Aside0.mk (Kd.R_after (v := (.slice (some ⟨go54, 0, none⟩) x3_1.length co54)) (v1 := (.slice (some ⟨go54, 0, none⟩) x3_1.length co54)) (ok := (fun _ => True)) (by (with_reducible repeat (first | apply Kd.R_alloc | apply Kd.R_drewN | apply Kd.R_drew)); exact Kd.R_mono HO_4.out (fun _ hk => ⟨trivial, hk⟩)) hg (.inl rfl)); have n2_ := Aside0.mk ((by rw [hw]; exact below_set (HB.out) GB54.out : Below w.heap.size w w56)); clear HO_3; clear HO_4; clear HB; have HO_3 := n0_; have HO_4 := n1_; have HB := n2_; clear n0_ n1_ n2_; clear hg hw hp_))
                                                  go_roundg kj30
                                                  case measure => have := HK1.out; have := HJ11.out; have := HJ15.out; have := HJ23.out; have := HJ30.out; omega
                                                  case rel => exact ⟨(y148), (wrap64 (x5_1 + 1)), (by first | rfl | (simp; done) | (simp [*]; done)), H', ⟨by have := HK1.out; have := HJ11.out; have := HJ15.out; have := HJ23.out; have := HJ30.out; omega⟩, ⟨by (with_reducible repeat (first | apply Kd.R_alloc | apply Kd.R_drewN | apply Kd.R_drew)); exact HO_3.out⟩, ⟨by (with_reducible repeat (first | apply Kd.R_alloc | apply Kd.R_drewN | apply Kd.R_drew)); exact Kd.R_mono HO_4.out (fun _ hk => hk.2)⟩, ⟨by repeat (first | (with_reducible first | exact HB.out | apply below_alloc | apply pw_below_drewN | apply below_drew1) | exact HB.out)⟩⟩
                                                · rw [if_neg c53] at H
                                                  exact absurd H (by simp)
                                              · rw [if_neg c52] at H
                                                exact absurd H (by simp)
                                            · rw [if_neg c51] at H
                                              exact absurd H (by simp)
                                          · rw [if_neg c50] at H
                                            exact absurd H (by simp)
                                        · replace c49 := Bool.eq_false_iff.mpr c49
                                          subst c49
                                          have H1 : (if 0 ≤ x5_1 then (if x5_1 < (t132.length : Int) then (if 0 ≤ (rd t132 x5_1) then (if (rd t132 x5_1) < (x3_1.length : Int) then (reedpenref23_Forms.l0 kj30 l0 (x3_1.set ((rd t132 x5_1) : Int).toNat 1) t132 (wrap64 (x5_1 + 1))) else (none)) else (none)) else (none)) else (none)) = some r := by rw [if_neg (show ¬ (false = true) by decide)] at H; exact H
                                          clear H
                                          have H := H1
                                          clear H1
                                          by_cases c57 : 0 ≤ x5_1
                                          · rw [if_pos c57] at H
                                            have c57b0 : decide (0 ≤ x5_1) = true := decide_eq_true c57
                                            clear c57
                                            by_cases c58 : x5_1 < (t132.length : Int)
                                            · rw [if_pos c58] at H
                                              have c58b0 : decide (x5_1 < (t132.length : Int)) = true := decide_eq_true c58
                                              clear c58
                                              by_cases c59 : 0 ≤ (rd t132 x5_1)
                                              · rw [if_pos c59] at H
                                                have c59b0 : decide (0 ≤ (rd t132 x5_1)) = true := decide_eq_true c59
                                                clear c59
                                                by_cases c60 : (rd t132 x5_1) < (x3_1.length : Int)
                                                · rw [if_pos c60] at H
                                                  have c60b0 : decide ((rd t132 x5_1) < (x3_1.length : Int)) = true := decide_eq_true c60
                                                  clear c60
                                                  obtain ⟨y150, hy150⟩ : ∃ y_ : List Int, y_ = (x3_1.set ((rd t132 x5_1) : Int).toNat 1) := ⟨_, rfl⟩
                                                  replace H : (reedpenref23_Forms.l0 kj30 l0 y150 t132 (wrap64 (x5_1 + 1))) = some r := by first | (rw [hy150]; with_reducible exact H) | (have H2_ := (Option.bind_some _ _).symm.trans H; rw [hy150]; with_reducible exact H2_) | (have H2_ := (Option.bind_some _ _).symm.trans H; with_reducible exact H2_) | with_reducible exact H | (rw [hy150]; exact H) | exact H
                                                  have Ny150 := Aside0.mk hy150
                                                  clear hy150
                                                  have H' := Aside0.mk H
                                                  clear H
                                                  have p149 : 0 ≤ (x5_1 : Int) := of_decide_eq_true (by first | (with_reducible assumption) | assumption)
                                                  have q149 : x5_1 < (t132.length : Int) := of_decide_eq_true (by first | (with_reducible assumption) | assumption)
                                                  obtain ⟨ad149, e149, hx149_0⟩ := Kd.at_int (Kd.R_reads' HO_4.out).2.2 x5_1 p149 q149
                                                  obtain rfl : ad135 = ad149 := (by injection e149)
                                                  replace p149 := eq_true p149
                                                  replace q149 := eq_true q149
                                                  have p61 : 0 ≤ ((rd t132 x5_1) : Int) := of_decide_eq_true (by first | (with_reducible assumption) | assumption)
                                                  have q61 : ((rd t132 x5_1) : Int) < ((x3_1.length : Int) : Int) := of_decide_eq_true (by first | (with_reducible assumption) | assumption)
                                                  obtain ⟨go61, co61, eo61, gb61, gl61, cl61, HG61⟩ := Kd.R_form HO_3.out (by omega)
                                                  (first | cases eo61 | (injection eo61 with ea_ en_ ec_; (first | subst ea_ | (injection ea_ with ea_; subst ea_)); subst ec_; clear en_))
                                                  have GB61 := Aside0.mk gb61
                                                  have GG61 := Aside0.mk HG61
                                                  clear gb61 gl61 HG61
                                                  obtain ⟨hx61_0, hf61_0⟩ := Kd.R_celln 0 HO_3.out ((rd t132 x5_1) : Int) p61 q61
                                                  replace p61 := eq_true p61
                                                  replace q61 := eq_true q61
                                                  have HP62 := Kd.R_putg HO_3.out ((rd t132 x5_1) : Int) 1
                                                  go_wp2_with (first | ((with_reducible refine gate_store (t := 3) (p := 77) rfl ?_); refine store_event (t := 3) (p := 77) (v := ?vo_w63) (w1 := (wc.setCell ⟨go61, ((rd t132 x5_1) : Int).toNat, none⟩ (.int .i64 1))) ?hg ?ho ?hn ?hr ?_; (case ho => rfl); (case hg => rfl); (case hn => rfl); (case hr => first | (go_simp; done) | (go_simp; rfl)); intro w63 hw; have hg : wc.grownBy w63 (some go61) := (by rw [hw]; exact HP62.2); have hp_ : Kd.R (Kd.int .i64) 3 w63 w.heap.size (fun k_ => some k_ ≠ (.slice (some ad135) t132.length co13 : Value).ownBlock) (.slice (some ⟨go61, 0, none⟩) x3_1.length co61) y150 := (by rw [hw, Ny150.out]; exact HP62.1); clear HP62; have n0_ := Aside0.mk (hp_); have n1_ := Aside0.mk (Kd.R_after (v := (.slice (some ⟨go61, 0, none⟩) x3_1.length co61)) (v1 := (.slice (some ⟨go61, 0, none⟩) x3_1.length co61)) (ok := (fun _ => True)) (by (with_reducible repeat (first | apply Kd.R_alloc | apply Kd.R_drewN | apply Kd.R_drew)); exact Kd.R_mono HO_4.out (fun _ hk => ⟨trivial, hk⟩)) hg (.inl rfl)); have n2_ := Aside0.mk ((by rw [hw]; exact below_set (HB.out) GB61.out : Below w.heap.size w w63)); clear HO_3; clear HO_4; clear HB; have HO_3 := n0_; have HO_4 := n1_; have HB := n2_; clear n0_ n1_ n2_; clear hg hw hp_))
                                                  go_roundg kj30
                                                  case measure => have := HK1.out; have := HJ11.out; have := HJ15.out; have := HJ23.out; have := HJ30.out; omega
                                                  case rel => exact ⟨(y150), (wrap64 (x5_1 + 1)), (by first | rfl | (simp; done) | (simp [*]; done)), H', ⟨by have := HK1.out; have := HJ11.out; have := HJ15.out; have := HJ23.out; have := HJ30.out; omega⟩, ⟨by (with_reducible repeat (first | apply Kd.R_alloc | apply Kd.R_drewN | apply Kd.R_drew)); exact HO_3.out⟩, ⟨by (with_reducible repeat (first | apply Kd.R_alloc | apply Kd.R_drewN | apply Kd.R_drew)); exact Kd.R_mono HO_4.out (fun _ hk => hk.2)⟩, ⟨by repeat (first | (with_reducible first | exact HB.out | apply below_alloc | apply pw_below_drewN | apply below_drew1) | exact HB.out)⟩⟩
                                                · rw [if_neg c60] at H
                                                  exact absurd H (by simp)
                                              · rw [if_neg c59] at H
                                                exact absurd H (by simp)
                                            · rw [if_neg c58] at H
                                              exact absurd H (by simp)
                                          · rw [if_neg c57] at H
                                            exact absurd H (by simp)
                · rw [if_neg c11] at H
                  exact absurd H (by simp)
              · rw [if_neg c10] at H
                exact absurd H (by simp)
            · rw [if_neg c9] at H
              exact absurd H (by simp)
          · rw [if_neg c8] at H
            have c8b0 : decide (x5_1 < (t132.length : Int)) = false := decide_eq_false c8
            clear c8
            obtain rfl := Option.some.inj H
            obtain ⟨Ao64, co64, eo64⟩ := Kd.R_slice HO_4.out
            subst eo64
            go_wp2
            go_ret
            exact ⟨_, by first | rfl | (simp [errW_none, errW_some] <;> rfl) | (simp [*, errW_none, errW_some] <;> rfl), by (with_reducible repeat (first | apply Kd.R_alloc | apply Kd.R_drewN | apply Kd.R_drew)); exact Kd.R_mono HO_3.out (fun _ hk => trivial), by repeat (first | (with_reducible first | exact HB.out | apply below_alloc | apply pw_below_drewN | apply below_drew1) | exact HB.out)⟩
    · rw [if_neg c3] at H
      exact absurd H (by simp)
  · rw [if_neg c2] at H
    exact absurd H (by simp)

end Go.Proofs.YtdaeombjdagnbaaDoor.PJoiningForms
