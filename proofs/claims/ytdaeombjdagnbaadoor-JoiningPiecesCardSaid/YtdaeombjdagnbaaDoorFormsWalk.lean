/- The law JoiningForms answers true: its walk. Condition: the table's cells. -/
import Derived.Test.YtdaeombjdagnbaaDoorAlive
namespace Go.Proofs.YtdaeombjdagnbaaDoor
open Go.RowKit Go.Proofs.YtdaeombjdagnbaaDoorW.PrintWords Go.Proofs.YtdaeombjdagnbaaDoorW.PrintLast Go.Proofs.YtdaeombjdagnbaaDoorW.PrintMore
open PJoiningForms Math

theorem forms_call (A0 : Option Addr) (c0 : Nat) (l : List Int) (w : World) (hr0 : Kd.C (Kd.int .i64) w A0 l.length l) (hc0 : l.length ≤ c0) (hl : l.length ≤ 1000) :
    Calls Tryd.prog 11 #[.slice A0 l.length c0] w fun e w' => ∃ A c, e = .returned (.slice A (forms l).length c) ∧ (forms l).length ≤ c ∧ Kd.C (Kd.int .i64) w' A (forms l).length (forms l) ∧ Below w.heap.size w w' :=
  (joining_Forms.calls _ A0 c0 l _ w hr0 hc0 (forms_f l (by omega) _ (Nat.le_refl _))).mono fun e w' ⟨v, he, ho, hb⟩ => by
    obtain ⟨A, c, hv, hc, hC⟩ := Kd.R_reads ho
    exact ⟨A, c, he.trans (congrArg _ hv), hc, hC, hb⟩
theorem ref_forms_call (A0 : Option Addr) (c0 : Nat) (l : List Int) (w : World) (hr0 : Kd.C (Kd.int .i64) w A0 l.length l) (hc0 : l.length ≤ c0) (hl : l.length ≤ 1000) :
    Calls Tryd.prog 12 #[.slice A0 l.length c0] w fun e w' => ∃ A c, e = .returned (.slice A (forms l).length c) ∧ (forms l).length ≤ c ∧ Kd.C (Kd.int .i64) w' A (forms l).length (forms l) ∧ Below w.heap.size w w' :=
  (reedpenref23_Forms.calls _ A0 c0 l _ w hr0 hc0 (ref_forms_f l (by omega) _ (Nat.le_refl _))).mono fun e w' ⟨v, he, ho, hb⟩ => by
    obtain ⟨A, c, hv, hc, hC⟩ := Kd.R_reads ho
    exact ⟨A, c, he.trans (congrArg _ hv), hc, hC, hb⟩
theorem ints_same (A0 A1 : Option Addr) (c0 c1 : Nat) (l : List Int) (w : World) (hr0 : Kd.C (Kd.int .i64) w A0 l.length l) (hc0 : l.length ≤ c0) (hr1 : Kd.C (Kd.int .i64) w A1 l.length l) (hc1 : l.length ≤ c1) (hl : l.length ≤ 1000) :
    Calls Tryd.prog 10 #[.slice A0 l.length c0, .slice A1 l.length c1] w fun e w' => e = .returned (.bool true) ∧ Drawn0 w w' :=
  reedpenref01_Ints.calls _ A0 c0 l A1 c1 l true w hr0 hc0 hr1 hc1 (by simpa using ints_f l l (by omega) _ (Nat.le_refl _))
theorem joins_call (a b : Int) (w : World) : Calls Tryd.prog 8 #[.int .i64 a, .int .i64 b] w fun e w' => e = .returned (.bool (jn a b)) ∧ Drawn0 w w' := joining_Joins.calls a b _ w (joins_f a b)
theorem ref_joins_call (a b : Int) (w : World) : Calls Tryd.prog 9 #[.int .i64 a, .int .i64 b] w fun e w' => e = .returned (.bool (jn a b)) ∧ Drawn0 w w' := reedpenref23_Joins.calls a b _ w (ref_joins_f a b)

set_option maxHeartbeats 1600000 in
set_option maxRecDepth 100000 in
theorem law_forms (A0 : Option Addr) (c0 : Nat) (l : List Int) (a b : Int) (w : World) (hr0 : Kd.C (Kd.int .i64) w A0 l.length l) (hc0 : l.length ≤ c0) (hT : Table w) (h0 : 0 < w.heap.size) :
    Calls Tryd.prog 3 #[.slice A0 l.length c0, .int .i64 a, .int .i64 b] w fun e w' => e = .returned (.bool true) ∧ Below w.heap.size w w' := by
  by_cases hl : l.length ≤ 200
  · have hd : decide ((200 : Int) < (l.length : Int)) = false := by simp; omega
    have HF := forms_length l
    have HL := Lib.hid HF
    clear HF
    obtain ⟨j, hj⟩ : ∃ j, j = jn a b := ⟨_, rfl⟩
    have hJ1 := fun W => joins_call a b W
    have hJ2 := fun W => ref_joins_call a b W
    rw [← hj] at hJ1 hJ2
    have HJ1 := Aside0.mk hJ1
    have HJ2 := Aside0.mk hJ2
    clear hj hJ1 hJ2
    go_enter Tryd.func3, Tryd.ntmps3
    go_wp2_with fail
    refine (alive_any _ hT h0).mono ?_
    rintro e w1 ⟨rfl, hb1⟩
    have hC1 := Kd.C_below hr0 hb1
    go_wp2_with (first | (go_at_call 8; refine (HJ1.out _).mono ?_; rintro e w' ⟨rfl, ⟨n1, rfl⟩⟩) | (go_at_call 9; refine (HJ2.out _).mono ?_; rintro e w' ⟨rfl, ⟨n2, rfl⟩⟩) | (go_at_call 11; refine (forms_call A0 c0 l _ (by exact hC1) hc0 (by omega)).mono ?_))
    rintro e w2 ⟨A2, c2, rfl, hc2, hC2, hb2⟩
    have hC1' := Kd.C_below (Kd.C_drewN hC1 _) hb2
    go_wp2_with (first | (go_at_call 12; refine (ref_forms_call A0 c0 l _ (by exact hC1') hc0 (by omega)).mono ?_))
    rintro e w3 ⟨A3, c3, rfl, hc3, hC3, hb3⟩
    have hC2' := Kd.C_below hC2 hb3
    go_wp2_with (first | (go_at_call 10; refine (ints_same A2 A3 c2 c3 (forms l) _ (by exact hC2') hc2 (by exact hC3) hc3 (by rw [HL.out]; omega)).mono ?_; rintro e w' ⟨rfl, ⟨n3, rfl⟩⟩))
    go_ret
    exact ⟨rfl, pw_below_drewN (below_step (below_step (pw_below_drewN hb1 _) hb2) hb3) _⟩
  · have hd : decide ((200 : Int) < (l.length : Int)) = true := by simp; omega
    go_enter Tryd.func3, Tryd.ntmps3
    go_wp2_with (go_at_call 7; refine (alive_any _ hT h0).mono ?_; rintro e w1 ⟨rfl, hb1⟩)
    go_ret
    exact ⟨rfl, by assumption⟩
end Go.Proofs.YtdaeombjdagnbaaDoor
