-- PRINTED BY print.sh 35421559b90ae4d0a3588c463048766b98c2df88dd9212a6774a882060cdf62d: not written by this session
import Derived.Test.YtloidjfcelbpmaaDoorPHangulPartsx0
namespace Go.Proofs.YtloidjfcelbpmaaDoor.PHangulParts
open Go.RowKit Go.Proofs.YtloidjfcelbpmaaDoorW.PrintWords Go.Proofs.YtloidjfcelbpmaaDoorW.PrintLast Go.Proofs.YtloidjfcelbpmaaDoorW.PrintMore
attribute [local go_sem] max2_int min2_int max_two min_two max_three min_three max_four min_four   -- for this text's walks alone
set_option linter.unusedVariables false
set_option linter.unusedSimpArgs false

/-! ### reedpenref22_Kind: function 11 -/
mutual
def reedpenref22_Kind.j0 : Nat → Int → Bool → Option (Int)
  | 0, _, _ => none
  | k + 1, x0, x3 => if x3 = true then (if (Int.tmod (wrap64 (wrap32 (x0 - 44032))) 28) > 0 then (some 5) else (some 4)) else (if x0 ≥ 4352 then (if x0 ≤ 4447 then (reedpenref22_Kind.j1 k x0 true) else (if x0 ≥ 43360 then (reedpenref22_Kind.j1 k x0 (decide (x0 ≤ 43388))) else (reedpenref22_Kind.j1 k x0 false))) else (if x0 ≥ 43360 then (reedpenref22_Kind.j1 k x0 (decide (x0 ≤ 43388))) else (reedpenref22_Kind.j1 k x0 false)))
def reedpenref22_Kind.j1 : Nat → Int → Bool → Option (Int)
  | 0, _, _ => none
  | k + 1, x0, x15 => if x15 = true then (some 1) else (if x0 ≥ 4448 then (if x0 ≤ 4519 then (reedpenref22_Kind.j2 k x0 true) else (if x0 ≥ 55216 then (reedpenref22_Kind.j2 k x0 (decide (x0 ≤ 55238))) else (reedpenref22_Kind.j2 k x0 false))) else (if x0 ≥ 55216 then (reedpenref22_Kind.j2 k x0 (decide (x0 ≤ 55238))) else (reedpenref22_Kind.j2 k x0 false)))
def reedpenref22_Kind.j2 : Nat → Int → Bool → Option (Int)
  | 0, _, _ => none
  | k + 1, x0, x30 => if x30 = true then (some 2) else (if x0 ≥ 4520 then (if x0 ≤ 4607 then (some 3) else (if x0 ≥ 55243 then (if x0 ≤ 55291 then (some 3) else (some 0)) else (some 0))) else (if x0 ≥ 55243 then (if x0 ≤ 55291 then (some 3) else (some 0)) else (some 0)))
end
def reedpenref22_Kind.f (k : Nat) (a0 : Int) : Option (Int) := if a0 ≥ 44032 then (reedpenref22_Kind.j0 k a0 (decide (a0 ≤ 55203))) else (reedpenref22_Kind.j0 k a0 false)
theorem reedpenref22_Kind.mono_l : ∀ k, (∀ y0 y1, LeO (reedpenref22_Kind.j0 k y0 y1) (reedpenref22_Kind.j0 (k + 1) y0 y1)) ∧ (∀ y0 y1, LeO (reedpenref22_Kind.j1 k y0 y1) (reedpenref22_Kind.j1 (k + 1) y0 y1)) ∧ (∀ y0 y1, LeO (reedpenref22_Kind.j2 k y0 y1) (reedpenref22_Kind.j2 (k + 1) y0 y1))
  | 0 => ⟨fun _ _ r h => by simp [reedpenref22_Kind.j0] at h, fun _ _ r h => by simp [reedpenref22_Kind.j1] at h, fun _ _ r h => by simp [reedpenref22_Kind.j2] at h⟩
  | k + 1 => by
    obtain ⟨ih0, ih1, ih2⟩ := reedpenref22_Kind.mono_l k
    refine ⟨?_, ?_, ?_⟩
    · intro y0 y1
      unfold reedpenref22_Kind.j0
      repeat' first
      | (with_reducible exact ih0 _ _)
      | (with_reducible exact ih1 _ _)
      | (with_reducible exact ih2 _ _)
      | (with_reducible exact LeO.refl _)
      | (with_reducible exact LeO.none _)
      | (with_reducible refine LeO.ite ?_ ?_)
      | (with_reducible refine LeO.bind ?_ (fun _ => ?_))
      | exact ih0 _ _
      | exact ih1 _ _
      | exact ih2 _ _
      | exact LeO.none _
      | refine LeO.ite ?_ ?_
      | refine LeO.bind ?_ (fun _ => ?_)
    · intro y0 y1
      unfold reedpenref22_Kind.j1
      repeat' first
      | (with_reducible exact ih0 _ _)
      | (with_reducible exact ih1 _ _)
      | (with_reducible exact ih2 _ _)
      | (with_reducible exact LeO.refl _)
      | (with_reducible exact LeO.none _)
      | (with_reducible refine LeO.ite ?_ ?_)
      | (with_reducible refine LeO.bind ?_ (fun _ => ?_))
      | exact ih0 _ _
      | exact ih1 _ _
      | exact ih2 _ _
      | exact LeO.none _
      | refine LeO.ite ?_ ?_
      | refine LeO.bind ?_ (fun _ => ?_)
    · intro y0 y1
      unfold reedpenref22_Kind.j2
      repeat' first
      | (with_reducible exact ih0 _ _)
      | (with_reducible exact ih1 _ _)
      | (with_reducible exact ih2 _ _)
      | (with_reducible exact LeO.refl _)
      | (with_reducible exact LeO.none _)
      | (with_reducible refine LeO.ite ?_ ?_)
      | (with_reducible refine LeO.bind ?_ (fun _ => ?_))
      | exact ih0 _ _
      | exact ih1 _ _
      | exact ih2 _ _
      | exact LeO.none _
      | refine LeO.ite ?_ ?_
      | refine LeO.bind ?_ (fun _ => ?_)
theorem reedpenref22_Kind.mono : ∀ a0 k, LeO (reedpenref22_Kind.f k a0) (reedpenref22_Kind.f (k + 1) a0) := by
  intro a0 k
  obtain ⟨ih0, ih1, ih2⟩ := reedpenref22_Kind.mono_l k
  unfold reedpenref22_Kind.f
  repeat' first
      | (with_reducible exact ih0 _ _)
      | (with_reducible exact ih1 _ _)
      | (with_reducible exact ih2 _ _)
      | (with_reducible exact LeO.refl _)
      | (with_reducible exact LeO.none _)
      | (with_reducible refine LeO.ite ?_ ?_)
      | (with_reducible refine LeO.bind ?_ (fun _ => ?_))
      | exact ih0 _ _
      | exact ih1 _ _
      | exact ih2 _ _
      | exact LeO.none _
      | refine LeO.ite ?_ ?_
      | refine LeO.bind ?_ (fun _ => ?_)
set_option maxHeartbeats 8000000 in
set_option maxRecDepth 100000 in
theorem reedpenref22_Kind.calls (k : Nat) (a0 : Int) (r : Int) (w : World) (h : reedpenref22_Kind.f k a0 = some r) :
    Calls Tryd.prog 11 #[.int .i32 a0] w fun e w' => e = .returned (.int .i64 r) ∧ Drawn0 w w' := by
  have H : (if a0 ≥ 44032 then (reedpenref22_Kind.j0 k a0 (decide (a0 ≤ 55203))) else (reedpenref22_Kind.j0 k a0 false)) = some r := h
  clear h
  have HC2 := Aside0.mk H
  clear H
  go_enter Tryd.func11, Tryd.ntmps11
  go_upto_region 1 with (fail)
  go_cut [3] (fun v3 wc => ∃ (kq : Nat) (x3_1 : Bool), v3 = .bool x3_1 ∧ Aside0 (reedpenref22_Kind.j0 kq a0 x3_1 = some r) ∧ Aside0 (kq ≤ k) ∧ Drawn0 w wc)
  case first =>
    have H := HC2.out
    clear HC2
    by_cases c3 : a0 ≥ 44032
    · rw [if_pos c3] at H
      have c3b0 : decide (44032 ≤ a0) = true := decide_eq_true c3
      clear c3
      (first | rw [c3b0] | (simp only [i64_w, i32_w]; rw [c3b0]) | skip)
      have H' := Aside0.mk H
      clear H
      go_wp2
      go_meet
      case rel => exact ⟨_, (decide (a0 ≤ 55203)), (by first | rfl | (simp; done) | (simp [*]; done)), H', ⟨by first | omega | exact Nat.le_refl _⟩, by repeat (first | exact Drawn0.refl _ | apply Drawn0.step)⟩
    · rw [if_neg c3] at H
      have c3b0 : decide (44032 ≤ a0) = false := decide_eq_false c3
      clear c3
      (first | rw [c3b0] | (simp only [i64_w, i32_w]; rw [c3b0]) | skip)
      have H' := Aside0.mk H
      clear H
      go_wp2
      go_meet
      case rel => exact ⟨_, (false), (by first | rfl | (simp; done) | (simp [*]; done)), H', ⟨by first | omega | exact Nat.le_refl _⟩, by repeat (first | exact Drawn0.refl _ | apply Drawn0.step)⟩
  case rest =>
    clear HC2
    try clear c1
    try clear p2
    try clear c3
    try clear c3b0
    obtain ⟨kq, x3_1, rfl, HA, HJ1, ⟨mc1, rfl⟩⟩ := hcut
    cases kq with
    | zero => exact absurd HA.out (by simp [reedpenref22_Kind.j0])
    | succ kj1 =>
      have H := HA.out
      clear HA
      simp only [reedpenref22_Kind.j0] at H
      by_cases c4 : x3_1 = true
      · subst c4
        have H1 : (if (Int.tmod (wrap64 (wrap32 (a0 - 44032))) 28) > 0 then (some 5) else (some 4)) = some r := by rw [if_pos rfl] at H; exact H
        clear H
        have H := H1
        clear H1
        by_cases c5 : (Int.tmod (wrap64 (wrap32 (a0 - 44032))) 28) > 0
        · rw [if_pos c5] at H
          have c5b0 : decide (0 < (Int.tmod (wrap64 (wrap32 (a0 - 44032))) 28)) = true := decide_eq_true c5
          clear c5
          obtain rfl := Option.some.inj H
          go_wp2
          go_ret
          exact ⟨by first | rfl | (simp; done) | (simp [*]; done), by repeat (first | exact Drawn0.refl _ | apply Drawn0.step)⟩
        · rw [if_neg c5] at H
          have c5b0 : decide (0 < (Int.tmod (wrap64 (wrap32 (a0 - 44032))) 28)) = false := decide_eq_false c5
          clear c5
          obtain rfl := Option.some.inj H
          go_wp2
          go_ret
          exact ⟨by first | rfl | (simp; done) | (simp [*]; done), by repeat (first | exact Drawn0.refl _ | apply Drawn0.step)⟩
      · replace c4 := Bool.eq_false_iff.mpr c4
        subst c4
        have H1 : (if a0 ≥ 4352 then (if a0 ≤ 4447 then (reedpenref22_Kind.j1 kj1 a0 true) else (if a0 ≥ 43360 then (reedpenref22_Kind.j1 kj1 a0 (decide (a0 ≤ 43388))) else (reedpenref22_Kind.j1 kj1 a0 false))) else (if a0 ≥ 43360 then (reedpenref22_Kind.j1 kj1 a0 (decide (a0 ≤ 43388))) else (reedpenref22_Kind.j1 kj1 a0 false))) = some r := by rw [if_neg (show ¬ (false = true) by decide)] at H; exact H
        clear H
        have H := H1
        clear H1
        have HC6 := Aside0.mk H
        clear H
        go_upto_region 5 with (fail)
        go_cut [15] (fun v15 wc => ∃ (kq : Nat) (x15_5 : Bool), v15 = .bool x15_5 ∧ Aside0 (reedpenref22_Kind.j1 kq a0 x15_5 = some r) ∧ Aside0 (kq ≤ kj1) ∧ Drawn0 w wc)
        case first =>
          have H := HC6.out
          clear HC6
          by_cases c7 : a0 ≥ 4352
          · rw [if_pos c7] at H
            have c7b0 : decide (4352 ≤ a0) = true := decide_eq_true c7
            clear c7
            (first | rw [c7b0] | (simp only [i64_w, i32_w]; rw [c7b0]) | skip)
            by_cases c8 : a0 ≤ 4447
            · rw [if_pos c8] at H
              have c8b0 : decide (a0 ≤ 4447) = true := decide_eq_true c8
              clear c8
              have H' := Aside0.mk H
              clear H
              go_wp2
              go_meet
              case rel => exact ⟨_, (true), (by first | rfl | (simp; done) | (simp [*]; done)), H', ⟨by have := HJ1.out; first | omega | exact Nat.le_refl _⟩, by repeat (first | exact Drawn0.refl _ | apply Drawn0.step)⟩
            · rw [if_neg c8] at H
              have c8b0 : decide (a0 ≤ 4447) = false := decide_eq_false c8
              clear c8
              by_cases c9 : a0 ≥ 43360
              · rw [if_pos c9] at H
                have c9b0 : decide (43360 ≤ a0) = true := decide_eq_true c9
                clear c9
                have H' := Aside0.mk H
                clear H
                go_wp2
                go_meet
                case rel => exact ⟨_, (decide (a0 ≤ 43388)), (by first | rfl | (simp; done) | (simp [*]; done)), H', ⟨by have := HJ1.out; first | omega | exact Nat.le_refl _⟩, by repeat (first | exact Drawn0.refl _ | apply Drawn0.step)⟩
              · rw [if_neg c9] at H
                have c9b0 : decide (43360 ≤ a0) = false := decide_eq_false c9
                clear c9
                have H' := Aside0.mk H
                clear H
                go_wp2
                go_meet
                case rel => exact ⟨_, (false), (by first | rfl | (simp; done) | (simp [*]; done)), H', ⟨by have := HJ1.out; first | omega | exact Nat.le_refl _⟩, by repeat (first | exact Drawn0.refl _ | apply Drawn0.step)⟩
          · rw [if_neg c7] at H
            have c7b0 : decide (4352 ≤ a0) = false := decide_eq_false c7
            clear c7
            (first | rw [c7b0] | (simp only [i64_w, i32_w]; rw [c7b0]) | skip)
            by_cases c10 : a0 ≥ 43360
            · rw [if_pos c10] at H
              have c10b0 : decide (43360 ≤ a0) = true := decide_eq_true c10
              clear c10
              have H' := Aside0.mk H
              clear H
              go_wp2
              go_meet
              case rel => exact ⟨_, (decide (a0 ≤ 43388)), (by first | rfl | (simp; done) | (simp [*]; done)), H', ⟨by have := HJ1.out; first | omega | exact Nat.le_refl _⟩, by repeat (first | exact Drawn0.refl _ | apply Drawn0.step)⟩
            · rw [if_neg c10] at H
              have c10b0 : decide (43360 ≤ a0) = false := decide_eq_false c10
              clear c10
              have H' := Aside0.mk H
              clear H
              go_wp2
              go_meet
              case rel => exact ⟨_, (false), (by first | rfl | (simp; done) | (simp [*]; done)), H', ⟨by have := HJ1.out; first | omega | exact Nat.le_refl _⟩, by repeat (first | exact Drawn0.refl _ | apply Drawn0.step)⟩
        case rest =>
          clear HC6
          try clear c1
          try clear p2
          try clear c3
          try clear c3b0
          try clear p3
          try clear c4
          try clear c5
          try clear c5b0
          try clear p6
          try clear c7
          try clear c7b0
          try clear c8
          try clear c8b0
          try clear c9
          try clear c9b0
          try clear c10
          try clear c10b0
          try clear p2
          obtain ⟨kq, x15_5, rfl, HA, HJ5, ⟨mc5, rfl⟩⟩ := hcut
          cases kq with
          | zero => exact absurd HA.out (by simp [reedpenref22_Kind.j1])
          | succ kj5 =>
            have H := HA.out
            clear HA
            simp only [reedpenref22_Kind.j1] at H
            by_cases c11 : x15_5 = true
            · subst c11
              have H1 : (some 1) = some r := by rw [if_pos rfl] at H; exact H
              clear H
              have H := H1
              clear H1
              obtain rfl := Option.some.inj H
              go_wp2
              go_ret
              exact ⟨by first | rfl | (simp; done) | (simp [*]; done), by repeat (first | exact Drawn0.refl _ | apply Drawn0.step)⟩
            · replace c11 := Bool.eq_false_iff.mpr c11
              subst c11
              have H1 : (if a0 ≥ 4448 then (if a0 ≤ 4519 then (reedpenref22_Kind.j2 kj5 a0 true) else (if a0 ≥ 55216 then (reedpenref22_Kind.j2 kj5 a0 (decide (a0 ≤ 55238))) else (reedpenref22_Kind.j2 kj5 a0 false))) else (if a0 ≥ 55216 then (reedpenref22_Kind.j2 kj5 a0 (decide (a0 ≤ 55238))) else (reedpenref22_Kind.j2 kj5 a0 false))) = some r := by rw [if_neg (show ¬ (false = true) by decide)] at H; exact H
              clear H
              have H := H1
              clear H1
              have HC12 := Aside0.mk H
              clear H
              go_upto_region 7 with (fail)
              go_cut [30] (fun v30 wc => ∃ (kq : Nat) (x30_11 : Bool), v30 = .bool x30_11 ∧ Aside0 (reedpenref22_Kind.j2 kq a0 x30_11 = some r) ∧ Aside0 (kq ≤ kj5) ∧ Drawn0 w wc)
              case first =>
                have H := HC12.out
                clear HC12
                by_cases c13 : a0 ≥ 4448
                · rw [if_pos c13] at H
                  have c13b0 : decide (4448 ≤ a0) = true := decide_eq_true c13
                  clear c13
                  (first | rw [c13b0] | (simp only [i64_w, i32_w]; rw [c13b0]) | skip)
                  by_cases c14 : a0 ≤ 4519
                  · rw [if_pos c14] at H
                    have c14b0 : decide (a0 ≤ 4519) = true := decide_eq_true c14
                    clear c14
                    have H' := Aside0.mk H
                    clear H
                    go_wp2
                    go_meet
                    case rel => exact ⟨_, (true), (by first | rfl | (simp; done) | (simp [*]; done)), H', ⟨by have := HJ1.out; have := HJ5.out; first | omega | exact Nat.le_refl _⟩, by repeat (first | exact Drawn0.refl _ | apply Drawn0.step)⟩
                  · rw [if_neg c14] at H
                    have c14b0 : decide (a0 ≤ 4519) = false := decide_eq_false c14
                    clear c14
                    by_cases c15 : a0 ≥ 55216
                    · rw [if_pos c15] at H
                      have c15b0 : decide (55216 ≤ a0) = true := decide_eq_true c15
                      clear c15
                      have H' := Aside0.mk H
                      clear H
                      go_wp2
                      go_meet
                      case rel => exact ⟨_, (decide (a0 ≤ 55238)), (by first | rfl | (simp; done) | (simp [*]; done)), H', ⟨by have := HJ1.out; have := HJ5.out; first | omega | exact Nat.le_refl _⟩, by repeat (first | exact Drawn0.refl _ | apply Drawn0.step)⟩
                    · rw [if_neg c15] at H
                      have c15b0 : decide (55216 ≤ a0) = false := decide_eq_false c15
                      clear c15
                      have H' := Aside0.mk H
                      clear H
                      go_wp2
                      go_meet
                      case rel => exact ⟨_, (false), (by first | rfl | (simp; done) | (simp [*]; done)), H', ⟨by have := HJ1.out; have := HJ5.out; first | omega | exact Nat.le_refl _⟩, by repeat (first | exact Drawn0.refl _ | apply Drawn0.step)⟩
                · rw [if_neg c13] at H
                  have c13b0 : decide (4448 ≤ a0) = false := decide_eq_false c13
                  clear c13
                  (first | rw [c13b0] | (simp only [i64_w, i32_w]; rw [c13b0]) | skip)
                  by_cases c16 : a0 ≥ 55216
                  · rw [if_pos c16] at H
                    have c16b0 : decide (55216 ≤ a0) = true := decide_eq_true c16
                    clear c16
                    have H' := Aside0.mk H
                    clear H
                    go_wp2
                    go_meet
                    case rel => exact ⟨_, (decide (a0 ≤ 55238)), (by first | rfl | (simp; done) | (simp [*]; done)), H', ⟨by have := HJ1.out; have := HJ5.out; first | omega | exact Nat.le_refl _⟩, by repeat (first | exact Drawn0.refl _ | apply Drawn0.step)⟩
                  · rw [if_neg c16] at H
                    have c16b0 : decide (55216 ≤ a0) = false := decide_eq_false c16
                    clear c16
                    have H' := Aside0.mk H
                    clear H
                    go_wp2
                    go_meet
                    case rel => exact ⟨_, (false), (by first | rfl | (simp; done) | (simp [*]; done)), H', ⟨by have := HJ1.out; have := HJ5.out; first | omega | exact Nat.le_refl _⟩, by repeat (first | exact Drawn0.refl _ | apply Drawn0.step)⟩
              case rest =>
                clear HC12
                try clear c1
                try clear p2
                try clear c3
                try clear c3b0
                try clear p3
                try clear c4
                try clear c5
                try clear c5b0
                try clear p6
                try clear c7
                try clear c7b0
                try clear c8
                try clear c8b0
                try clear c9
                try clear c9b0
                try clear c10
                try clear c10b0
                try clear c11
                try clear c13
                try clear c13b0
                try clear c14
                try clear c14b0
                try clear c15
                try clear c15b0
                try clear c16
                try clear c16b0
                try clear p2
                try clear p3
                try clear p6
                obtain ⟨kq, x30_11, rfl, HA, HJ11, ⟨mc11, rfl⟩⟩ := hcut
                cases kq with
                | zero => exact absurd HA.out (by simp [reedpenref22_Kind.j2])
                | succ kj11 =>
                  have H := HA.out
                  clear HA
                  simp only [reedpenref22_Kind.j2] at H
                  by_cases c17 : x30_11 = true
                  · subst c17
                    have H1 : (some 2) = some r := by rw [if_pos rfl] at H; exact H
                    clear H
                    have H := H1
                    clear H1
                    obtain rfl := Option.some.inj H
                    go_wp2
                    go_ret
                    exact ⟨by first | rfl | (simp; done) | (simp [*]; done), by repeat (first | exact Drawn0.refl _ | apply Drawn0.step)⟩
                  · replace c17 := Bool.eq_false_iff.mpr c17
                    subst c17
                    have H1 : (if a0 ≥ 4520 then (if a0 ≤ 4607 then (some 3) else (if a0 ≥ 55243 then (if a0 ≤ 55291 then (some 3) else (some 0)) else (some 0))) else (if a0 ≥ 55243 then (if a0 ≤ 55291 then (some 3) else (some 0)) else (some 0))) = some r := by rw [if_neg (show ¬ (false = true) by decide)] at H; exact H
                    clear H
                    have H := H1
                    clear H1
                    by_cases c18 : a0 ≥ 4520
                    · rw [if_pos c18] at H
                      have c18b0 : decide (4520 ≤ a0) = true := decide_eq_true c18
                      clear c18
                      by_cases c19 : a0 ≤ 4607
                      · rw [if_pos c19] at H
                        have c19b0 : decide (a0 ≤ 4607) = true := decide_eq_true c19
                        clear c19
                        obtain rfl := Option.some.inj H
                        go_wp2
                        go_ret
                        exact ⟨by first | rfl | (simp; done) | (simp [*]; done), by repeat (first | exact Drawn0.refl _ | apply Drawn0.step)⟩
                      · rw [if_neg c19] at H
                        have c19b0 : decide (a0 ≤ 4607) = false := decide_eq_false c19
                        clear c19
                        by_cases c20 : a0 ≥ 55243
                        · rw [if_pos c20] at H
                          have c20b0 : decide (55243 ≤ a0) = true := decide_eq_true c20
                          clear c20
                          by_cases c21 : a0 ≤ 55291
                          · rw [if_pos c21] at H
                            have c21b0 : decide (a0 ≤ 55291) = true := decide_eq_true c21
                            clear c21
                            obtain rfl := Option.some.inj H
                            go_wp2
                            go_ret
                            exact ⟨by first | rfl | (simp; done) | (simp [*]; done), by repeat (first | exact Drawn0.refl _ | apply Drawn0.step)⟩
                          · rw [if_neg c21] at H
                            have c21b0 : decide (a0 ≤ 55291) = false := decide_eq_false c21
                            clear c21
                            obtain rfl := Option.some.inj H
                            go_wp2
                            go_ret
                            exact ⟨by first | rfl | (simp; done) | (simp [*]; done), by repeat (first | exact Drawn0.refl _ | apply Drawn0.step)⟩
                        · rw [if_neg c20] at H
                          have c20b0 : decide (55243 ≤ a0) = false := decide_eq_false c20
                          clear c20
                          obtain rfl := Option.some.inj H
                          go_wp2
                          go_ret
                          exact ⟨by first | rfl | (simp; done) | (simp [*]; done), by repeat (first | exact Drawn0.refl _ | apply Drawn0.step)⟩
                    · rw [if_neg c18] at H
                      have c18b0 : decide (4520 ≤ a0) = false := decide_eq_false c18
                      clear c18
                      by_cases c22 : a0 ≥ 55243
                      · rw [if_pos c22] at H
                        have c22b0 : decide (55243 ≤ a0) = true := decide_eq_true c22
                        clear c22
                        by_cases c23 : a0 ≤ 55291
                        · rw [if_pos c23] at H
                          have c23b0 : decide (a0 ≤ 55291) = true := decide_eq_true c23
                          clear c23
                          obtain rfl := Option.some.inj H
                          go_wp2
                          go_ret
                          exact ⟨by first | rfl | (simp; done) | (simp [*]; done), by repeat (first | exact Drawn0.refl _ | apply Drawn0.step)⟩
                        · rw [if_neg c23] at H
                          have c23b0 : decide (a0 ≤ 55291) = false := decide_eq_false c23
                          clear c23
                          obtain rfl := Option.some.inj H
                          go_wp2
                          go_ret
                          exact ⟨by first | rfl | (simp; done) | (simp [*]; done), by repeat (first | exact Drawn0.refl _ | apply Drawn0.step)⟩
                      · rw [if_neg c22] at H
                        have c22b0 : decide (55243 ≤ a0) = false := decide_eq_false c22
                        clear c22
                        obtain rfl := Option.some.inj H
                        go_wp2
                        go_ret
                        exact ⟨by first | rfl | (simp; done) | (simp [*]; done), by repeat (first | exact Drawn0.refl _ | apply Drawn0.step)⟩

/-! ### reedpenref22_Parts: function 14 -/
def reedpenref22_Parts.f (k : Nat) (a0 : Int) : Option (List Int) := (reedpenref22_Kind.f k a0).bind fun t137 => (if t137 < 4 then (some (([a0] : List Int))) else (if (Int.tmod (wrap64 ((wrap64 (a0)) - 44032)) 28) = 0 then (some (([wrap32 (wrap64 (4352 + (wrap64 (Int.tdiv (wrap64 ((wrap64 ((wrap64 ((wrap64 (a0)) - 44032)) - (Int.tmod (wrap64 ((wrap64 (a0)) - 44032)) 28))) - (wrap64 (28 * (Int.tmod (wrap64 (Int.tdiv (wrap64 ((wrap64 ((wrap64 (a0)) - 44032)) - (Int.tmod (wrap64 ((wrap64 (a0)) - 44032)) 28))) 28)) 21))))) 588)))), wrap32 (wrap64 (4449 + (Int.tmod (wrap64 (Int.tdiv (wrap64 ((wrap64 ((wrap64 (a0)) - 44032)) - (Int.tmod (wrap64 ((wrap64 (a0)) - 44032)) 28))) 28)) 21)))] : List Int))) else (some (([wrap32 (wrap64 (4352 + (wrap64 (Int.tdiv (wrap64 ((wrap64 ((wrap64 ((wrap64 (a0)) - 44032)) - (Int.tmod (wrap64 ((wrap64 (a0)) - 44032)) 28))) - (wrap64 (28 * (Int.tmod (wrap64 (Int.tdiv (wrap64 ((wrap64 ((wrap64 (a0)) - 44032)) - (Int.tmod (wrap64 ((wrap64 (a0)) - 44032)) 28))) 28)) 21))))) 588)))), wrap32 (wrap64 (4449 + (Int.tmod (wrap64 (Int.tdiv (wrap64 ((wrap64 ((wrap64 (a0)) - 44032)) - (Int.tmod (wrap64 ((wrap64 (a0)) - 44032)) 28))) 28)) 21))), wrap32 (wrap64 (4519 + (Int.tmod (wrap64 ((wrap64 (a0)) - 44032)) 28)))] : List Int)))))
theorem reedpenref22_Parts.mono : ∀ a0 k, LeO (reedpenref22_Parts.f k a0) (reedpenref22_Parts.f (k + 1) a0) := by
  intro a0 k
  unfold reedpenref22_Parts.f
  repeat' first
      | (with_reducible exact reedpenref22_Kind.mono _ _)
      | (with_reducible exact LeO.refl _)
      | (with_reducible exact LeO.none _)
      | (with_reducible refine LeO.ite ?_ ?_)
      | (with_reducible refine LeO.bind ?_ (fun _ => ?_))
      | exact reedpenref22_Kind.mono _ _
      | exact LeO.none _
      | refine LeO.ite ?_ ?_
      | refine LeO.bind ?_ (fun _ => ?_)
set_option maxHeartbeats 8000000 in
set_option maxRecDepth 100000 in
theorem reedpenref22_Parts.calls (k : Nat) (a0 : Int) (r : List Int) (w : World) (h : reedpenref22_Parts.f k a0 = some r) :
    Calls Tryd.prog 14 #[.int .i32 a0] w fun e w' => ∃ v0_ : Value, e = .returned (v0_) ∧ Kd.R (Kd.int .i32) 21 w' w.heap.size (fun _ => True) v0_ r ∧ Below w.heap.size w w' := by
  have HB := Aside0.mk (Below.refl w.heap.size w)
  have H : ((reedpenref22_Kind.f k a0).bind fun t137 => (if t137 < 4 then (some (([a0] : List Int))) else (if (Int.tmod (wrap64 ((wrap64 (a0)) - 44032)) 28) = 0 then (some (([wrap32 (wrap64 (4352 + (wrap64 (Int.tdiv (wrap64 ((wrap64 ((wrap64 ((wrap64 (a0)) - 44032)) - (Int.tmod (wrap64 ((wrap64 (a0)) - 44032)) 28))) - (wrap64 (28 * (Int.tmod (wrap64 (Int.tdiv (wrap64 ((wrap64 ((wrap64 (a0)) - 44032)) - (Int.tmod (wrap64 ((wrap64 (a0)) - 44032)) 28))) 28)) 21))))) 588)))), wrap32 (wrap64 (4449 + (Int.tmod (wrap64 (Int.tdiv (wrap64 ((wrap64 ((wrap64 (a0)) - 44032)) - (Int.tmod (wrap64 ((wrap64 (a0)) - 44032)) 28))) 28)) 21)))] : List Int))) else (some (([wrap32 (wrap64 (4352 + (wrap64 (Int.tdiv (wrap64 ((wrap64 ((wrap64 ((wrap64 (a0)) - 44032)) - (Int.tmod (wrap64 ((wrap64 (a0)) - 44032)) 28))) - (wrap64 (28 * (Int.tmod (wrap64 (Int.tdiv (wrap64 ((wrap64 ((wrap64 (a0)) - 44032)) - (Int.tmod (wrap64 ((wrap64 (a0)) - 44032)) 28))) 28)) 21))))) 588)))), wrap32 (wrap64 (4449 + (Int.tmod (wrap64 (Int.tdiv (wrap64 ((wrap64 ((wrap64 (a0)) - 44032)) - (Int.tmod (wrap64 ((wrap64 (a0)) - 44032)) 28))) 28)) 21))), wrap32 (wrap64 (4519 + (Int.tmod (wrap64 ((wrap64 (a0)) - 44032)) 28)))] : List Int)))))) = some r := h
  clear h
  replace H := Option.bind_eq_some_iff.mp H
  obtain ⟨t137, A20, H⟩ := H
  replace H : (if t137 < 4 then (some (([a0] : List Int))) else (if (Int.tmod (wrap64 ((wrap64 (a0)) - 44032)) 28) = 0 then (some (([wrap32 (wrap64 (4352 + (wrap64 (Int.tdiv (wrap64 ((wrap64 ((wrap64 ((wrap64 (a0)) - 44032)) - (Int.tmod (wrap64 ((wrap64 (a0)) - 44032)) 28))) - (wrap64 (28 * (Int.tmod (wrap64 (Int.tdiv (wrap64 ((wrap64 ((wrap64 (a0)) - 44032)) - (Int.tmod (wrap64 ((wrap64 (a0)) - 44032)) 28))) 28)) 21))))) 588)))), wrap32 (wrap64 (4449 + (Int.tmod (wrap64 (Int.tdiv (wrap64 ((wrap64 ((wrap64 (a0)) - 44032)) - (Int.tmod (wrap64 ((wrap64 (a0)) - 44032)) 28))) 28)) 21)))] : List Int))) else (some (([wrap32 (wrap64 (4352 + (wrap64 (Int.tdiv (wrap64 ((wrap64 ((wrap64 ((wrap64 (a0)) - 44032)) - (Int.tmod (wrap64 ((wrap64 (a0)) - 44032)) 28))) - (wrap64 (28 * (Int.tmod (wrap64 (Int.tdiv (wrap64 ((wrap64 ((wrap64 (a0)) - 44032)) - (Int.tmod (wrap64 ((wrap64 (a0)) - 44032)) 28))) 28)) 21))))) 588)))), wrap32 (wrap64 (4449 + (Int.tmod (wrap64 (Int.tdiv (wrap64 ((wrap64 ((wrap64 (a0)) - 44032)) - (Int.tmod (wrap64 ((wrap64 (a0)) - 44032)) 28))) 28)) 21))), wrap32 (wrap64 (4519 + (Int.tmod (wrap64 ((wrap64 (a0)) - 44032)) 28)))] : List Int))))) = some r := H
  have A2 := Aside0.mk A20
  clear A20
  by_cases c3 : t137 < 4
  · rw [if_pos c3] at H
    have c3b0 : decide (t137 < 4) = true := decide_eq_true c3
    clear c3
    obtain ⟨y138, hy138⟩ : ∃ y_ : List Int, y_ = (([a0] : List Int)) := ⟨_, rfl⟩
    replace H : (some y138) = some r := by first | (rw [hy138]; with_reducible exact H) | (have H2_ := (Option.bind_some _ _).symm.trans H; rw [hy138]; with_reducible exact H2_) | (have H2_ := (Option.bind_some _ _).symm.trans H; with_reducible exact H2_) | with_reducible exact H | (rw [hy138]; exact H) | exact H
    have Ny138 := Aside0.mk hy138
    clear hy138
    obtain rfl := Option.some.inj H
    go_enter Tryd.func14, Tryd.ntmps14
    go_wp2_with (first | ((with_reducible refine gate_callee (f := 11) rfl ?_); refine goesL_ (some 8) rfl rfl Tryd.func11 (by kernel_rfl) rfl #[.int .i32 a0] rfl (by (try simp only [List.map_toArray, List.map_cons, List.map_nil]); first | done | rfl | (simp only [List.length_drop, List.length_take]; rfl)) ?_; (with_reducible refine (reedpenref22_Kind.calls k a0 t137 _ A2.out).mono ?_); rintro e w' ⟨rfl, ⟨nd, rfl⟩⟩; refine ⟨_, rfl, ?_⟩) | ((with_reducible refine gate_dst (N := 11) rfl ?_); refine Kd.R_lit (Kd.int .i32) _ 21 ?hg (N := 11) ?hd (xs := ([a0] : List Int)) (inner := [.int .i32 a0]) (ok := fun _ => True) (okp := fun _ => True) ?hr ?hp (fun _ hk => hk) trivial (Below.refl _ _) (Nat.le_refl _) (by simp) ?_; (case hd => rfl); (case hg => rfl); (case hr => first | (go_simp; done) | (go_simp; rfl)); (case hp => exact (Reps.one (show Kd.M (Kd.int .i32) _ _ _ a0 [.int .i32 a0] from rfl) (Reps.none _ _))); intro v139 w4 ho5 hb hg_ hnew_; clear hg_ hnew_; (first | rw [← Ny138.out] at ho5 | (simp only [Int.reduceToNat] at ho5; rw [← Ny138.out] at ho5)); have n0_ := Aside0.mk (Kd.R_lower ho5 (below_size (by repeat (first | (with_reducible first | exact HB.out | apply below_alloc | apply pw_below_drewN | apply below_drew1) | exact HB.out)))); have n1_ := Aside0.mk (below_step (by repeat (first | (with_reducible first | exact HB.out | apply below_alloc | apply pw_below_drewN | apply below_drew1) | exact HB.out)) hb); clear HB; have HO140 := n0_; have HB := n1_; clear n0_ n1_; clear hb ho5))
    go_ret
    exact ⟨_, by first | rfl | (simp [errW_none, errW_some] <;> rfl) | (simp [*, errW_none, errW_some] <;> rfl), by (with_reducible repeat (first | apply Kd.R_alloc | apply Kd.R_drewN | apply Kd.R_drew)); exact HO140.out, by repeat (first | (with_reducible first | exact HB.out | apply below_alloc | apply pw_below_drewN | apply below_drew1) | exact HB.out)⟩
  · rw [if_neg c3] at H
    have c3b0 : decide (t137 < 4) = false := decide_eq_false c3
    clear c3
    by_cases c6 : (Int.tmod (wrap64 ((wrap64 (a0)) - 44032)) 28) = 0
    · rw [if_pos c6] at H
      have c6b0 : ((Int.tmod (wrap64 ((wrap64 (a0)) - 44032)) 28) == 0) = true := beq_iff_eq.mpr c6
      have c6b1 : ((Int.tmod (wrap64 ((wrap64 (a0)) - 44032)) 28) != 0) = false := bne_eq_false_iff_eq.mpr c6
      clear c6
      obtain ⟨y141, hy141⟩ : ∃ y_ : List Int, y_ = (([wrap32 (wrap64 (4352 + (wrap64 (Int.tdiv (wrap64 ((wrap64 ((wrap64 ((wrap64 (a0)) - 44032)) - (Int.tmod (wrap64 ((wrap64 (a0)) - 44032)) 28))) - (wrap64 (28 * (Int.tmod (wrap64 (Int.tdiv (wrap64 ((wrap64 ((wrap64 (a0)) - 44032)) - (Int.tmod (wrap64 ((wrap64 (a0)) - 44032)) 28))) 28)) 21))))) 588)))), wrap32 (wrap64 (4449 + (Int.tmod (wrap64 (Int.tdiv (wrap64 ((wrap64 ((wrap64 (a0)) - 44032)) - (Int.tmod (wrap64 ((wrap64 (a0)) - 44032)) 28))) 28)) 21)))] : List Int)) := ⟨_, rfl⟩
      replace H : (some y141) = some r := by first | (rw [hy141]; with_reducible exact H) | (have H2_ := (Option.bind_some _ _).symm.trans H; rw [hy141]; with_reducible exact H2_) | (have H2_ := (Option.bind_some _ _).symm.trans H; with_reducible exact H2_) | with_reducible exact H | (rw [hy141]; exact H) | exact H
      have Ny141 := Aside0.mk hy141
      clear hy141
      obtain rfl := Option.some.inj H
      go_enter Tryd.func14, Tryd.ntmps14
      go_wp2_with (first | ((with_reducible refine gate_callee (f := 11) rfl ?_); refine goesL_ (some 8) rfl rfl Tryd.func11 (by kernel_rfl) rfl #[.int .i32 a0] rfl (by (try simp only [List.map_toArray, List.map_cons, List.map_nil]); first | done | rfl | (simp only [List.length_drop, List.length_take]; rfl)) ?_; (with_reducible refine (reedpenref22_Kind.calls k a0 t137 _ A2.out).mono ?_); rintro e w' ⟨rfl, ⟨nd, rfl⟩⟩; refine ⟨_, rfl, ?_⟩) | ((with_reducible refine gate_dst (N := 37) rfl ?_); refine Kd.R_lit (Kd.int .i32) _ 21 ?hg (N := 37) ?hd (xs := ([wrap32 (wrap64 (4352 + (wrap64 (Int.tdiv (wrap64 ((wrap64 ((wrap64 ((wrap64 (a0)) - 44032)) - (Int.tmod (wrap64 ((wrap64 (a0)) - 44032)) 28))) - (wrap64 (28 * (Int.tmod (wrap64 (Int.tdiv (wrap64 ((wrap64 ((wrap64 (a0)) - 44032)) - (Int.tmod (wrap64 ((wrap64 (a0)) - 44032)) 28))) 28)) 21))))) 588)))), wrap32 (wrap64 (4449 + (Int.tmod (wrap64 (Int.tdiv (wrap64 ((wrap64 ((wrap64 (a0)) - 44032)) - (Int.tmod (wrap64 ((wrap64 (a0)) - 44032)) 28))) 28)) 21)))] : List Int)) (inner := [.int .i32 (wrap32 (wrap64 (4352 + (wrap64 (Int.tdiv (wrap64 ((wrap64 ((wrap64 ((wrap64 (a0)) - 44032)) - (Int.tmod (wrap64 ((wrap64 (a0)) - 44032)) 28))) - (wrap64 (28 * (Int.tmod (wrap64 (Int.tdiv (wrap64 ((wrap64 ((wrap64 (a0)) - 44032)) - (Int.tmod (wrap64 ((wrap64 (a0)) - 44032)) 28))) 28)) 21))))) 588))))), .int .i32 (wrap32 (wrap64 (4449 + (Int.tmod (wrap64 (Int.tdiv (wrap64 ((wrap64 ((wrap64 (a0)) - 44032)) - (Int.tmod (wrap64 ((wrap64 (a0)) - 44032)) 28))) 28)) 21))))]) (ok := fun _ => True) (okp := fun _ => True) ?hr ?hp (fun _ hk => hk) trivial (Below.refl _ _) (Nat.le_refl _) (by simp) ?_; (case hd => rfl); (case hg => rfl); (case hr => first | (go_simp; done) | (go_simp; rfl)); (case hp => exact (Reps.one (show Kd.M (Kd.int .i32) _ _ _ (wrap32 (wrap64 (4352 + (wrap64 (Int.tdiv (wrap64 ((wrap64 ((wrap64 ((wrap64 (a0)) - 44032)) - (Int.tmod (wrap64 ((wrap64 (a0)) - 44032)) 28))) - (wrap64 (28 * (Int.tmod (wrap64 (Int.tdiv (wrap64 ((wrap64 ((wrap64 (a0)) - 44032)) - (Int.tmod (wrap64 ((wrap64 (a0)) - 44032)) 28))) 28)) 21))))) 588))))) [.int .i32 (wrap32 (wrap64 (4352 + (wrap64 (Int.tdiv (wrap64 ((wrap64 ((wrap64 ((wrap64 (a0)) - 44032)) - (Int.tmod (wrap64 ((wrap64 (a0)) - 44032)) 28))) - (wrap64 (28 * (Int.tmod (wrap64 (Int.tdiv (wrap64 ((wrap64 ((wrap64 (a0)) - 44032)) - (Int.tmod (wrap64 ((wrap64 (a0)) - 44032)) 28))) 28)) 21))))) 588)))))] from rfl) (Reps.one (show Kd.M (Kd.int .i32) _ _ _ (wrap32 (wrap64 (4449 + (Int.tmod (wrap64 (Int.tdiv (wrap64 ((wrap64 ((wrap64 (a0)) - 44032)) - (Int.tmod (wrap64 ((wrap64 (a0)) - 44032)) 28))) 28)) 21)))) [.int .i32 (wrap32 (wrap64 (4449 + (Int.tmod (wrap64 (Int.tdiv (wrap64 ((wrap64 ((wrap64 (a0)) - 44032)) - (Int.tmod (wrap64 ((wrap64 (a0)) - 44032)) 28))) 28)) 21))))] from rfl) (Reps.none _ _)))); intro v142 w7 ho8 hb hg_ hnew_; clear hg_ hnew_; (first | rw [← Ny141.out] at ho8 | (simp only [Int.reduceToNat] at ho8; rw [← Ny141.out] at ho8)); have n0_ := Aside0.mk (Kd.R_lower ho8 (below_size (by repeat (first | (with_reducible first | exact HB.out | apply below_alloc | apply pw_below_drewN | apply below_drew1) | exact HB.out)))); have n1_ := Aside0.mk (below_step (by repeat (first | (with_reducible first | exact HB.out | apply below_alloc | apply pw_below_drewN | apply below_drew1) | exact HB.out)) hb); clear HB; have HO143 := n0_; have HB := n1_; clear n0_ n1_; clear hb ho8))
      go_ret
      exact ⟨_, by first | rfl | (simp [errW_none, errW_some] <;> rfl) | (simp [*, errW_none, errW_some] <;> rfl), by (with_reducible repeat (first | apply Kd.R_alloc | apply Kd.R_drewN | apply Kd.R_drew)); exact HO143.out, by repeat (first | (with_reducible first | exact HB.out | apply below_alloc | apply pw_below_drewN | apply below_drew1) | exact HB.out)⟩
    · rw [if_neg c6] at H
      have c6b0 : ((Int.tmod (wrap64 ((wrap64 (a0)) - 44032)) 28) == 0) = false := beq_eq_false_iff_ne.mpr c6
      have c6b1 : ((Int.tmod (wrap64 ((wrap64 (a0)) - 44032)) 28) != 0) = true := bne_iff_ne.mpr c6
      obtain ⟨y144, hy144⟩ : ∃ y_ : List Int, y_ = (([wrap32 (wrap64 (4352 + (wrap64 (Int.tdiv (wrap64 ((wrap64 ((wrap64 ((wrap64 (a0)) - 44032)) - (Int.tmod (wrap64 ((wrap64 (a0)) - 44032)) 28))) - (wrap64 (28 * (Int.tmod (wrap64 (Int.tdiv (wrap64 ((wrap64 ((wrap64 (a0)) - 44032)) - (Int.tmod (wrap64 ((wrap64 (a0)) - 44032)) 28))) 28)) 21))))) 588)))), wrap32 (wrap64 (4449 + (Int.tmod (wrap64 (Int.tdiv (wrap64 ((wrap64 ((wrap64 (a0)) - 44032)) - (Int.tmod (wrap64 ((wrap64 (a0)) - 44032)) 28))) 28)) 21))), wrap32 (wrap64 (4519 + (Int.tmod (wrap64 ((wrap64 (a0)) - 44032)) 28)))] : List Int)) := ⟨_, rfl⟩
      replace H : (some y144) = some r := by first | (rw [hy144]; with_reducible exact H) | (have H2_ := (Option.bind_some _ _).symm.trans H; rw [hy144]; with_reducible exact H2_) | (have H2_ := (Option.bind_some _ _).symm.trans H; with_reducible exact H2_) | with_reducible exact H | (rw [hy144]; exact H) | exact H
      have Ny144 := Aside0.mk hy144
      clear hy144
      obtain rfl := Option.some.inj H
      go_enter Tryd.func14, Tryd.ntmps14
      go_wp2_with (first | ((with_reducible refine gate_callee (f := 11) rfl ?_); refine goesL_ (some 8) rfl rfl Tryd.func11 (by kernel_rfl) rfl #[.int .i32 a0] rfl (by (try simp only [List.map_toArray, List.map_cons, List.map_nil]); first | done | rfl | (simp only [List.length_drop, List.length_take]; rfl)) ?_; (with_reducible refine (reedpenref22_Kind.calls k a0 t137 _ A2.out).mono ?_); rintro e w' ⟨rfl, ⟨nd, rfl⟩⟩; refine ⟨_, rfl, ?_⟩) | ((with_reducible refine gate_dst (N := 47) rfl ?_); refine Kd.R_lit (Kd.int .i32) _ 21 ?hg (N := 47) ?hd (xs := ([wrap32 (wrap64 (4352 + (wrap64 (Int.tdiv (wrap64 ((wrap64 ((wrap64 ((wrap64 (a0)) - 44032)) - (Int.tmod (wrap64 ((wrap64 (a0)) - 44032)) 28))) - (wrap64 (28 * (Int.tmod (wrap64 (Int.tdiv (wrap64 ((wrap64 ((wrap64 (a0)) - 44032)) - (Int.tmod (wrap64 ((wrap64 (a0)) - 44032)) 28))) 28)) 21))))) 588)))), wrap32 (wrap64 (4449 + (Int.tmod (wrap64 (Int.tdiv (wrap64 ((wrap64 ((wrap64 (a0)) - 44032)) - (Int.tmod (wrap64 ((wrap64 (a0)) - 44032)) 28))) 28)) 21))), wrap32 (wrap64 (4519 + (Int.tmod (wrap64 ((wrap64 (a0)) - 44032)) 28)))] : List Int)) (inner := [.int .i32 (wrap32 (wrap64 (4352 + (wrap64 (Int.tdiv (wrap64 ((wrap64 ((wrap64 ((wrap64 (a0)) - 44032)) - (Int.tmod (wrap64 ((wrap64 (a0)) - 44032)) 28))) - (wrap64 (28 * (Int.tmod (wrap64 (Int.tdiv (wrap64 ((wrap64 ((wrap64 (a0)) - 44032)) - (Int.tmod (wrap64 ((wrap64 (a0)) - 44032)) 28))) 28)) 21))))) 588))))), .int .i32 (wrap32 (wrap64 (4449 + (Int.tmod (wrap64 (Int.tdiv (wrap64 ((wrap64 ((wrap64 (a0)) - 44032)) - (Int.tmod (wrap64 ((wrap64 (a0)) - 44032)) 28))) 28)) 21)))), .int .i32 (wrap32 (wrap64 (4519 + (Int.tmod (wrap64 ((wrap64 (a0)) - 44032)) 28))))]) (ok := fun _ => True) (okp := fun _ => True) ?hr ?hp (fun _ hk => hk) trivial (Below.refl _ _) (Nat.le_refl _) (by simp) ?_; (case hd => rfl); (case hg => rfl); (case hr => first | (go_simp; done) | (go_simp; rfl)); (case hp => exact (Reps.one (show Kd.M (Kd.int .i32) _ _ _ (wrap32 (wrap64 (4352 + (wrap64 (Int.tdiv (wrap64 ((wrap64 ((wrap64 ((wrap64 (a0)) - 44032)) - (Int.tmod (wrap64 ((wrap64 (a0)) - 44032)) 28))) - (wrap64 (28 * (Int.tmod (wrap64 (Int.tdiv (wrap64 ((wrap64 ((wrap64 (a0)) - 44032)) - (Int.tmod (wrap64 ((wrap64 (a0)) - 44032)) 28))) 28)) 21))))) 588))))) [.int .i32 (wrap32 (wrap64 (4352 + (wrap64 (Int.tdiv (wrap64 ((wrap64 ((wrap64 ((wrap64 (a0)) - 44032)) - (Int.tmod (wrap64 ((wrap64 (a0)) - 44032)) 28))) - (wrap64 (28 * (Int.tmod (wrap64 (Int.tdiv (wrap64 ((wrap64 ((wrap64 (a0)) - 44032)) - (Int.tmod (wrap64 ((wrap64 (a0)) - 44032)) 28))) 28)) 21))))) 588)))))] from rfl) (Reps.one (show Kd.M (Kd.int .i32) _ _ _ (wrap32 (wrap64 (4449 + (Int.tmod (wrap64 (Int.tdiv (wrap64 ((wrap64 ((wrap64 (a0)) - 44032)) - (Int.tmod (wrap64 ((wrap64 (a0)) - 44032)) 28))) 28)) 21)))) [.int .i32 (wrap32 (wrap64 (4449 + (Int.tmod (wrap64 (Int.tdiv (wrap64 ((wrap64 ((wrap64 (a0)) - 44032)) - (Int.tmod (wrap64 ((wrap64 (a0)) - 44032)) 28))) 28)) 21))))] from rfl) (Reps.one (show Kd.M (Kd.int .i32) _ _ _ (wrap32 (wrap64 (4519 + (Int.tmod (wrap64 ((wrap64 (a0)) - 44032)) 28)))) [.int .i32 (wrap32 (wrap64 (4519 + (Int.tmod (wrap64 ((wrap64 (a0)) - 44032)) 28))))] from rfl) (Reps.none _ _))))); intro v145 w9 ho10 hb hg_ hnew_; clear hg_ hnew_; (first | rw [← Ny144.out] at ho10 | (simp only [Int.reduceToNat] at ho10; rw [← Ny144.out] at ho10)); have n0_ := Aside0.mk (Kd.R_lower ho10 (below_size (by repeat (first | (with_reducible first | exact HB.out | apply below_alloc | apply pw_below_drewN | apply below_drew1) | exact HB.out)))); have n1_ := Aside0.mk (below_step (by repeat (first | (with_reducible first | exact HB.out | apply below_alloc | apply pw_below_drewN | apply below_drew1) | exact HB.out)) hb); clear HB; have HO146 := n0_; have HB := n1_; clear n0_ n1_; clear hb ho10))
      go_ret
      exact ⟨_, by first | rfl | (simp [errW_none, errW_some] <;> rfl) | (simp [*, errW_none, errW_some] <;> rfl), by (with_reducible repeat (first | apply Kd.R_alloc | apply Kd.R_drewN | apply Kd.R_drew)); exact HO146.out, by repeat (first | (with_reducible first | exact HB.out | apply below_alloc | apply pw_below_drewN | apply below_drew1) | exact HB.out)⟩

-- NOT PRINTED: function 3 (reedpenlaw22_HangulParts)

end Go.Proofs.YtloidjfcelbpmaaDoor.PHangulParts
