/- The law JoiningCuts answers true, whatever the form: its walk. Condition: the table's cells. -/
import Derived.Test.YtdaeombjdagnbaaDoorCutsWalk
namespace Go.Proofs.YtdaeombjdagnbaaDoor
open Go.RowKit Go.Proofs.YtdaeombjdagnbaaDoorW.PrintWords Go.Proofs.YtdaeombjdagnbaaDoorW.PrintLast Go.Proofs.YtdaeombjdagnbaaDoorW.PrintMore
open PJoiningForms Math

set_option maxHeartbeats 3200000 in
set_option maxRecDepth 100000 in
theorem law_cuts_low (n : Int) (hn : n ≤ 0) (A0 : Option Addr) (c0 : Nat) (l : List Int) (w : World) (hr0 : Kd.C (Kd.int .i64) w A0 l.length l) (hc0 : l.length ≤ c0) (hT : Table w) (h0 : 0 < w.heap.size) (hl : l.length ≤ 200) :
    Calls Tryd.prog 4 #[.slice A0 l.length c0, .int .i64 n] w fun e w' => e = .returned (.bool true) ∧ Below w.heap.size w w' := by
  have hd : decide ((200 : Int) < (l.length : Int)) = false := by simp; omega
  have hd1 : decide ((0 : Int) < n) = false := by simp; omega
  have HF := Lib.hid (show feat n = ⟨#[]⟩ by unfold feat; rw [if_neg (by omega), if_neg (by omega), if_neg (by omega), if_neg (by omega)])
  go_enter Tryd.func4, Tryd.ntmps4
  go_wp2_with fail
  refine (alive_any _ hT h0).mono ?_
  rintro e w1 ⟨rfl, hb1⟩
  have hC1 := Kd.C_below hr0 hb1
  go_wp2_with (go_at_call 13; refine (cuts_any A0 c0 l _ (by exact Kd.C_alloc hC1 _) hc0 (by omega)).mono ?_)
  rintro e w2 ⟨v2, rfl, ho2, hb2⟩
  have hC2 := Kd.C_below (Kd.C_alloc hC1 _) hb2
  go_wp2_with (go_at_call 14; refine (ref_cuts_any A0 c0 l _ (by exact hC2) hc0 (by omega)).mono ?_)
  rintro e w3 ⟨v3, rfl, ho3, hb3⟩
  have hb13 : Below w.heap.size w w3 := below_step (below_step (below_alloc hb1 _) hb2) hb3
  have hT3 := hT.below h0 hb13
  have ho2' := pw_own_below ho2 hb3
  have hcl := cuts_length l
  rcases Nat.eq_zero_or_pos (cuts l).length with hz | hpos
  · rw [hz] at ho2' ho3
    obtain ⟨A2, k2, rfl⟩ := own_slice ho2'
    obtain ⟨A3, k3, rfl⟩ := own_slice ho3
    clear hz
    go_wp2_with (go_at_call 15; refine (feature_str n _ HF.out _ (by exact hT3)).mono ?_; rintro e w' ⟨rfl, rfl⟩)
    go_loopw [9] (fun i wr => i = .int .i64 0 ∧ wr = w3) (fun _ _ => 0)
    case atStart => exact ⟨rfl, rfl⟩
    case round =>
      obtain ⟨rfl, rfl⟩ := hrel
      go_wp2
      go_ret
      exact ⟨rfl, hb13⟩
  · obtain ⟨g2, k2, rfl, hg2, hx2⟩ := pairs_open ho2' rfl hpos
    obtain ⟨g3, k3, rfl, hg3, hx3⟩ := pairs_open ho3 rfl hpos
    go_wp2_with (go_at_call 15; refine (feature_str n _ HF.out _ (by exact hT3)).mono ?_; rintro e w' ⟨rfl, rfl⟩)
    go_loopw [9] (fun i wr => ∃ k m : Nat, k ≤ (cuts l).length ∧ i = .int .i64 k ∧ wr = w3.drewN m) (fun i _ => (cuts l).length - (intOf i).toNat)
    case atStart => exact ⟨0, 0, Nat.zero_le _, rfl, rfl⟩
    case round =>
      obtain ⟨k, m, hk, rfl, rfl⟩ := hrel
      by_cases hlt : k < (cuts l).length
      · obtain ⟨a1, a2⟩ := hx2 k hlt
        obtain ⟨a3, a4⟩ := hx3 k hlt
        have b1 : (0 : Int) ≤ (k : Int) := by omega
        have b2 : (k : Int) < ((cuts l).length : Int) := by omega
        obtain ⟨x, hx⟩ : ∃ x, x = ((cuts l).getD k (0, 0)).1 := ⟨_, rfl⟩
        obtain ⟨y, hy⟩ : ∃ y, y = ((cuts l).getD k (0, 0)).2 := ⟨_, rfl⟩
        rw [← hx] at a1 a3
        rw [← hy] at a2 a4
        clear hx hy hx2 hx3
        have hq := eq_same' x y
        have hg := Tryd.eqGuardType32
        go_wp2
        go_quiet (fail)
        go_wp2
        go_roundw
        case rel => exact ⟨k + 1, m + nq, by omega, by go_num, rfl⟩
        case measure => simp [intOf]; omega
      · go_wp2
        go_ret
        exact ⟨rfl, pw_below_drewN hb13 _⟩

set_option maxHeartbeats 3200000 in
set_option maxRecDepth 100000 in
theorem law_cuts_1 (A0 : Option Addr) (c0 : Nat) (l : List Int) (w : World) (hr0 : Kd.C (Kd.int .i64) w A0 l.length l) (hc0 : l.length ≤ c0) (hT : Table w) (h0 : 0 < w.heap.size) (hl : l.length ≤ 200) :
    Calls Tryd.prog 4 #[.slice A0 l.length c0, .int .i64 1] w fun e w' => e = .returned (.bool true) ∧ Below w.heap.size w w' := by
  have hd : decide ((200 : Int) < (l.length : Int)) = false := by simp; omega
  go_enter Tryd.func4, Tryd.ntmps4
  go_wp2_with fail
  refine (alive_any _ hT h0).mono ?_
  rintro e w1 ⟨rfl, hb1⟩
  have hC1 := Kd.C_below hr0 hb1
  go_wp2_with (go_at_call 13; refine (cuts_any A0 c0 l _ (by exact Kd.C_alloc hC1 _) hc0 (by omega)).mono ?_)
  rintro e w2 ⟨v2, rfl, ho2, hb2⟩
  have hC2 := Kd.C_below (Kd.C_alloc hC1 _) hb2
  go_wp2_with (go_at_call 14; refine (ref_cuts_any A0 c0 l _ (by exact hC2) hc0 (by omega)).mono ?_)
  rintro e w3 ⟨v3, rfl, ho3, hb3⟩
  have hb13 : Below w.heap.size w w3 := below_step (below_step (below_alloc hb1 _) hb2) hb3
  have hT3 := hT.below h0 hb13
  have ho2' := pw_own_below ho2 hb3
  have hcl := cuts_length l
  rcases Nat.eq_zero_or_pos (cuts l).length with hz | hpos
  · rw [hz] at ho2' ho3
    obtain ⟨A2, k2, rfl⟩ := own_slice ho2'
    obtain ⟨A3, k3, rfl⟩ := own_slice ho3
    clear hz
    go_wp2_with (go_at_call 15; refine (feature_str 1 ⟨#[105, 115, 111, 108]⟩ rfl _ (by exact hT3)).mono ?_; rintro e w' ⟨rfl, rfl⟩)
    go_loopw [9] (fun i wr => i = .int .i64 0 ∧ wr = w3) (fun _ _ => 0)
    case atStart => exact ⟨rfl, rfl⟩
    case round =>
      obtain ⟨rfl, rfl⟩ := hrel
      go_wp2
      go_ret
      exact ⟨rfl, hb13⟩
  · obtain ⟨g2, k2, rfl, hg2, hx2⟩ := pairs_open ho2' rfl hpos
    obtain ⟨g3, k3, rfl, hg3, hx3⟩ := pairs_open ho3 rfl hpos
    go_wp2_with (go_at_call 15; refine (feature_str 1 ⟨#[105, 115, 111, 108]⟩ rfl _ (by exact hT3)).mono ?_; rintro e w' ⟨rfl, rfl⟩)
    go_loopw [9] (fun i wr => ∃ k m : Nat, k ≤ (cuts l).length ∧ i = .int .i64 k ∧ wr = w3.drewN m) (fun i _ => (cuts l).length - (intOf i).toNat)
    case atStart => exact ⟨0, 0, Nat.zero_le _, rfl, rfl⟩
    case round =>
      obtain ⟨k, m, hk, rfl, rfl⟩ := hrel
      by_cases hlt : k < (cuts l).length
      · obtain ⟨a1, a2⟩ := hx2 k hlt
        obtain ⟨a3, a4⟩ := hx3 k hlt
        have b1 : (0 : Int) ≤ (k : Int) := by omega
        have b2 : (k : Int) < ((cuts l).length : Int) := by omega
        obtain ⟨x, hx⟩ : ∃ x, x = ((cuts l).getD k (0, 0)).1 := ⟨_, rfl⟩
        obtain ⟨y, hy⟩ : ∃ y, y = ((cuts l).getD k (0, 0)).2 := ⟨_, rfl⟩
        rw [← hx] at a1 a3
        rw [← hy] at a2 a4
        clear hx hy hx2 hx3
        have hq := eq_same' x y
        have hg := Tryd.eqGuardType32
        go_wp2
        go_quiet (fail)
        go_wp2
        go_roundw
        case rel => exact ⟨k + 1, m + nq, by omega, by go_num, rfl⟩
        case measure => simp [intOf]; omega
      · go_wp2
        go_ret
        exact ⟨rfl, pw_below_drewN hb13 _⟩

set_option maxHeartbeats 3200000 in
set_option maxRecDepth 100000 in
theorem law_cuts_2 (A0 : Option Addr) (c0 : Nat) (l : List Int) (w : World) (hr0 : Kd.C (Kd.int .i64) w A0 l.length l) (hc0 : l.length ≤ c0) (hT : Table w) (h0 : 0 < w.heap.size) (hl : l.length ≤ 200) :
    Calls Tryd.prog 4 #[.slice A0 l.length c0, .int .i64 2] w fun e w' => e = .returned (.bool true) ∧ Below w.heap.size w w' := by
  have hd : decide ((200 : Int) < (l.length : Int)) = false := by simp; omega
  go_enter Tryd.func4, Tryd.ntmps4
  go_wp2_with fail
  refine (alive_any _ hT h0).mono ?_
  rintro e w1 ⟨rfl, hb1⟩
  have hC1 := Kd.C_below hr0 hb1
  go_wp2_with (go_at_call 13; refine (cuts_any A0 c0 l _ (by exact Kd.C_alloc hC1 _) hc0 (by omega)).mono ?_)
  rintro e w2 ⟨v2, rfl, ho2, hb2⟩
  have hC2 := Kd.C_below (Kd.C_alloc hC1 _) hb2
  go_wp2_with (go_at_call 14; refine (ref_cuts_any A0 c0 l _ (by exact hC2) hc0 (by omega)).mono ?_)
  rintro e w3 ⟨v3, rfl, ho3, hb3⟩
  have hb13 : Below w.heap.size w w3 := below_step (below_step (below_alloc hb1 _) hb2) hb3
  have hT3 := hT.below h0 hb13
  have ho2' := pw_own_below ho2 hb3
  have hcl := cuts_length l
  rcases Nat.eq_zero_or_pos (cuts l).length with hz | hpos
  · rw [hz] at ho2' ho3
    obtain ⟨A2, k2, rfl⟩ := own_slice ho2'
    obtain ⟨A3, k3, rfl⟩ := own_slice ho3
    clear hz
    go_wp2_with (go_at_call 15; refine (feature_str 2 ⟨#[102, 105, 110, 97]⟩ rfl _ (by exact hT3)).mono ?_; rintro e w' ⟨rfl, rfl⟩)
    go_loopw [9] (fun i wr => i = .int .i64 0 ∧ wr = w3) (fun _ _ => 0)
    case atStart => exact ⟨rfl, rfl⟩
    case round =>
      obtain ⟨rfl, rfl⟩ := hrel
      go_wp2
      go_ret
      exact ⟨rfl, hb13⟩
  · obtain ⟨g2, k2, rfl, hg2, hx2⟩ := pairs_open ho2' rfl hpos
    obtain ⟨g3, k3, rfl, hg3, hx3⟩ := pairs_open ho3 rfl hpos
    go_wp2_with (go_at_call 15; refine (feature_str 2 ⟨#[102, 105, 110, 97]⟩ rfl _ (by exact hT3)).mono ?_; rintro e w' ⟨rfl, rfl⟩)
    go_loopw [9] (fun i wr => ∃ k m : Nat, k ≤ (cuts l).length ∧ i = .int .i64 k ∧ wr = w3.drewN m) (fun i _ => (cuts l).length - (intOf i).toNat)
    case atStart => exact ⟨0, 0, Nat.zero_le _, rfl, rfl⟩
    case round =>
      obtain ⟨k, m, hk, rfl, rfl⟩ := hrel
      by_cases hlt : k < (cuts l).length
      · obtain ⟨a1, a2⟩ := hx2 k hlt
        obtain ⟨a3, a4⟩ := hx3 k hlt
        have b1 : (0 : Int) ≤ (k : Int) := by omega
        have b2 : (k : Int) < ((cuts l).length : Int) := by omega
        obtain ⟨x, hx⟩ : ∃ x, x = ((cuts l).getD k (0, 0)).1 := ⟨_, rfl⟩
        obtain ⟨y, hy⟩ : ∃ y, y = ((cuts l).getD k (0, 0)).2 := ⟨_, rfl⟩
        rw [← hx] at a1 a3
        rw [← hy] at a2 a4
        clear hx hy hx2 hx3
        have hq := eq_same' x y
        have hg := Tryd.eqGuardType32
        go_wp2
        go_quiet (fail)
        go_wp2
        go_roundw
        case rel => exact ⟨k + 1, m + nq, by omega, by go_num, rfl⟩
        case measure => simp [intOf]; omega
      · go_wp2
        go_ret
        exact ⟨rfl, pw_below_drewN hb13 _⟩

set_option maxHeartbeats 3200000 in
set_option maxRecDepth 100000 in
theorem law_cuts_3 (A0 : Option Addr) (c0 : Nat) (l : List Int) (w : World) (hr0 : Kd.C (Kd.int .i64) w A0 l.length l) (hc0 : l.length ≤ c0) (hT : Table w) (h0 : 0 < w.heap.size) (hl : l.length ≤ 200) :
    Calls Tryd.prog 4 #[.slice A0 l.length c0, .int .i64 3] w fun e w' => e = .returned (.bool true) ∧ Below w.heap.size w w' := by
  have hd : decide ((200 : Int) < (l.length : Int)) = false := by simp; omega
  go_enter Tryd.func4, Tryd.ntmps4
  go_wp2_with fail
  refine (alive_any _ hT h0).mono ?_
  rintro e w1 ⟨rfl, hb1⟩
  have hC1 := Kd.C_below hr0 hb1
  go_wp2_with (go_at_call 13; refine (cuts_any A0 c0 l _ (by exact Kd.C_alloc hC1 _) hc0 (by omega)).mono ?_)
  rintro e w2 ⟨v2, rfl, ho2, hb2⟩
  have hC2 := Kd.C_below (Kd.C_alloc hC1 _) hb2
  go_wp2_with (go_at_call 14; refine (ref_cuts_any A0 c0 l _ (by exact hC2) hc0 (by omega)).mono ?_)
  rintro e w3 ⟨v3, rfl, ho3, hb3⟩
  have hb13 : Below w.heap.size w w3 := below_step (below_step (below_alloc hb1 _) hb2) hb3
  have hT3 := hT.below h0 hb13
  have ho2' := pw_own_below ho2 hb3
  have hcl := cuts_length l
  rcases Nat.eq_zero_or_pos (cuts l).length with hz | hpos
  · rw [hz] at ho2' ho3
    obtain ⟨A2, k2, rfl⟩ := own_slice ho2'
    obtain ⟨A3, k3, rfl⟩ := own_slice ho3
    clear hz
    go_wp2_with (go_at_call 15; refine (feature_str 3 ⟨#[109, 101, 100, 105]⟩ rfl _ (by exact hT3)).mono ?_; rintro e w' ⟨rfl, rfl⟩)
    go_loopw [9] (fun i wr => i = .int .i64 0 ∧ wr = w3) (fun _ _ => 0)
    case atStart => exact ⟨rfl, rfl⟩
    case round =>
      obtain ⟨rfl, rfl⟩ := hrel
      go_wp2
      go_ret
      exact ⟨rfl, hb13⟩
  · obtain ⟨g2, k2, rfl, hg2, hx2⟩ := pairs_open ho2' rfl hpos
    obtain ⟨g3, k3, rfl, hg3, hx3⟩ := pairs_open ho3 rfl hpos
    go_wp2_with (go_at_call 15; refine (feature_str 3 ⟨#[109, 101, 100, 105]⟩ rfl _ (by exact hT3)).mono ?_; rintro e w' ⟨rfl, rfl⟩)
    go_loopw [9] (fun i wr => ∃ k m : Nat, k ≤ (cuts l).length ∧ i = .int .i64 k ∧ wr = w3.drewN m) (fun i _ => (cuts l).length - (intOf i).toNat)
    case atStart => exact ⟨0, 0, Nat.zero_le _, rfl, rfl⟩
    case round =>
      obtain ⟨k, m, hk, rfl, rfl⟩ := hrel
      by_cases hlt : k < (cuts l).length
      · obtain ⟨a1, a2⟩ := hx2 k hlt
        obtain ⟨a3, a4⟩ := hx3 k hlt
        have b1 : (0 : Int) ≤ (k : Int) := by omega
        have b2 : (k : Int) < ((cuts l).length : Int) := by omega
        obtain ⟨x, hx⟩ : ∃ x, x = ((cuts l).getD k (0, 0)).1 := ⟨_, rfl⟩
        obtain ⟨y, hy⟩ : ∃ y, y = ((cuts l).getD k (0, 0)).2 := ⟨_, rfl⟩
        rw [← hx] at a1 a3
        rw [← hy] at a2 a4
        clear hx hy hx2 hx3
        have hq := eq_same' x y
        have hg := Tryd.eqGuardType32
        go_wp2
        go_quiet (fail)
        go_wp2
        go_roundw
        case rel => exact ⟨k + 1, m + nq, by omega, by go_num, rfl⟩
        case measure => simp [intOf]; omega
      · go_wp2
        go_ret
        exact ⟨rfl, pw_below_drewN hb13 _⟩

set_option maxHeartbeats 3200000 in
set_option maxRecDepth 100000 in
theorem law_cuts_4 (A0 : Option Addr) (c0 : Nat) (l : List Int) (w : World) (hr0 : Kd.C (Kd.int .i64) w A0 l.length l) (hc0 : l.length ≤ c0) (hT : Table w) (h0 : 0 < w.heap.size) (hl : l.length ≤ 200) :
    Calls Tryd.prog 4 #[.slice A0 l.length c0, .int .i64 4] w fun e w' => e = .returned (.bool true) ∧ Below w.heap.size w w' := by
  have hd : decide ((200 : Int) < (l.length : Int)) = false := by simp; omega
  go_enter Tryd.func4, Tryd.ntmps4
  go_wp2_with fail
  refine (alive_any _ hT h0).mono ?_
  rintro e w1 ⟨rfl, hb1⟩
  have hC1 := Kd.C_below hr0 hb1
  go_wp2_with (go_at_call 13; refine (cuts_any A0 c0 l _ (by exact Kd.C_alloc hC1 _) hc0 (by omega)).mono ?_)
  rintro e w2 ⟨v2, rfl, ho2, hb2⟩
  have hC2 := Kd.C_below (Kd.C_alloc hC1 _) hb2
  go_wp2_with (go_at_call 14; refine (ref_cuts_any A0 c0 l _ (by exact hC2) hc0 (by omega)).mono ?_)
  rintro e w3 ⟨v3, rfl, ho3, hb3⟩
  have hb13 : Below w.heap.size w w3 := below_step (below_step (below_alloc hb1 _) hb2) hb3
  have hT3 := hT.below h0 hb13
  have ho2' := pw_own_below ho2 hb3
  have hcl := cuts_length l
  rcases Nat.eq_zero_or_pos (cuts l).length with hz | hpos
  · rw [hz] at ho2' ho3
    obtain ⟨A2, k2, rfl⟩ := own_slice ho2'
    obtain ⟨A3, k3, rfl⟩ := own_slice ho3
    clear hz
    go_wp2_with (go_at_call 15; refine (feature_str 4 ⟨#[105, 110, 105, 116]⟩ rfl _ (by exact hT3)).mono ?_; rintro e w' ⟨rfl, rfl⟩)
    go_loopw [9] (fun i wr => i = .int .i64 0 ∧ wr = w3) (fun _ _ => 0)
    case atStart => exact ⟨rfl, rfl⟩
    case round =>
      obtain ⟨rfl, rfl⟩ := hrel
      go_wp2
      go_ret
      exact ⟨rfl, hb13⟩
  · obtain ⟨g2, k2, rfl, hg2, hx2⟩ := pairs_open ho2' rfl hpos
    obtain ⟨g3, k3, rfl, hg3, hx3⟩ := pairs_open ho3 rfl hpos
    go_wp2_with (go_at_call 15; refine (feature_str 4 ⟨#[105, 110, 105, 116]⟩ rfl _ (by exact hT3)).mono ?_; rintro e w' ⟨rfl, rfl⟩)
    go_loopw [9] (fun i wr => ∃ k m : Nat, k ≤ (cuts l).length ∧ i = .int .i64 k ∧ wr = w3.drewN m) (fun i _ => (cuts l).length - (intOf i).toNat)
    case atStart => exact ⟨0, 0, Nat.zero_le _, rfl, rfl⟩
    case round =>
      obtain ⟨k, m, hk, rfl, rfl⟩ := hrel
      by_cases hlt : k < (cuts l).length
      · obtain ⟨a1, a2⟩ := hx2 k hlt
        obtain ⟨a3, a4⟩ := hx3 k hlt
        have b1 : (0 : Int) ≤ (k : Int) := by omega
        have b2 : (k : Int) < ((cuts l).length : Int) := by omega
        obtain ⟨x, hx⟩ : ∃ x, x = ((cuts l).getD k (0, 0)).1 := ⟨_, rfl⟩
        obtain ⟨y, hy⟩ : ∃ y, y = ((cuts l).getD k (0, 0)).2 := ⟨_, rfl⟩
        rw [← hx] at a1 a3
        rw [← hy] at a2 a4
        clear hx hy hx2 hx3
        have hq := eq_same' x y
        have hg := Tryd.eqGuardType32
        go_wp2
        go_quiet (fail)
        go_wp2
        go_roundw
        case rel => exact ⟨k + 1, m + nq, by omega, by go_num, rfl⟩
        case measure => simp [intOf]; omega
      · go_wp2
        go_ret
        exact ⟨rfl, pw_below_drewN hb13 _⟩

theorem law_cuts_big (n : Int) (A0 : Option Addr) (c0 : Nat) (l : List Int) (w : World) (hT : Table w) (h0 : 0 < w.heap.size) (hl : 200 < l.length) :
    Calls Tryd.prog 4 #[.slice A0 l.length c0, .int .i64 n] w fun e w' => e = .returned (.bool true) ∧ Below w.heap.size w w' := by
  have hd : decide ((200 : Int) < (l.length : Int)) = true := by simp; omega
  go_enter Tryd.func4, Tryd.ntmps4
  go_wp2_with fail
  refine (alive_any _ hT h0).mono ?_
  rintro e w1 ⟨rfl, hb1⟩
  go_wp2
  go_ret
  exact ⟨rfl, hb1⟩

theorem law_cuts (A0 : Option Addr) (c0 : Nat) (l : List Int) (n : Int) (w : World) (hr0 : Kd.C (Kd.int .i64) w A0 l.length l) (hc0 : l.length ≤ c0) (hT : Table w) (h0 : 0 < w.heap.size) :
    Calls Tryd.prog 4 #[.slice A0 l.length c0, .int .i64 n] w fun e w' => e = .returned (.bool true) ∧ Below w.heap.size w w' := by
  by_cases hl : l.length ≤ 200
  · rcases (show n ≤ 0 ∨ n = 1 ∨ n = 2 ∨ n = 3 ∨ n = 4 ∨ 5 ≤ n by omega) with h | rfl | rfl | rfl | rfl | h
    · exact law_cuts_low n h A0 c0 l w hr0 hc0 hT h0 hl
    · exact law_cuts_1 A0 c0 l w hr0 hc0 hT h0 hl
    · exact law_cuts_2 A0 c0 l w hr0 hc0 hT h0 hl
    · exact law_cuts_3 A0 c0 l w hr0 hc0 hT h0 hl
    · exact law_cuts_4 A0 c0 l w hr0 hc0 hT h0 hl
    · exact law_cuts_mid n h A0 c0 l w hr0 hc0 hT h0 hl
  · exact law_cuts_big n A0 c0 l w hT h0 (by omega)
end Go.Proofs.YtdaeombjdagnbaaDoor
