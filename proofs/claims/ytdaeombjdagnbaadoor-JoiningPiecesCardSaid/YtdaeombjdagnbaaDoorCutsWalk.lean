/- The law JoiningCuts answers true: its walk. Condition: the table's cells. -/
import Derived.Test.YtdaeombjdagnbaaDoorRefCuts
import Derived.Laws.StructEq
namespace Go.Proofs.YtdaeombjdagnbaaDoor
open Go.RowKit Go.Proofs.YtdaeombjdagnbaaDoorW.PrintWords Go.Proofs.YtdaeombjdagnbaaDoorW.PrintLast Go.Proofs.YtdaeombjdagnbaaDoorW.PrintMore
open PJoiningForms Math

theorem under32 : Tryd.prog.underlying 32 = some (.array 2 3) := by kernel_rfl
theorem size3 (w : World) : (sizeOf 3).run Tryd.prog w = .ok 1 w := by kernel_rfl
theorem part3 (cs : Array Value) (i : Nat) (v : Value) (h : cs[i]? = some v) (w : World) : (part 3 cs i).run Tryd.prog w = .ok v w := by
  have hz : (isAgg 3).run Tryd.prog w = .ok false w := by kernel_rfl
  simp [part, hz, h]
theorem eq_same (d : Nat) (x y : Int) (w : World) : (Op.equalIn (d + 1 + 1) 32 (.agg #[.int .i64 x, .int .i64 y]) (.agg #[.int .i64 x, .int .i64 y])).run Tryd.prog w = .ok true w := by
  have p0 := fun w => part3 #[.int .i64 x, .int .i64 y] 0 (.int .i64 x) rfl w
  have p1 := fun w => part3 #[.int .i64 x, .int .i64 y] 1 (.int .i64 y) rfl w
  have e := fun (z : Int) (w : World) => run_equalIn_int (P := Tryd.prog) (w := w) d 3 .i64 .i64 z z Tryd.underlying3
  rw [Op.equalIn]
  simp only [Sem.run_bind, run_underlying under32, size3, Result.andThen_ok]
  simp [List.range', p0, p1, e]
theorem eq_same' (x y : Int) (w : World) : (Op.equalIn 10000 32 (.agg #[.int .i64 x, .int .i64 y]) (.agg #[.int .i64 x, .int .i64 y])).run Tryd.prog w = .ok true w := eq_same 9998 x y w
/-- A row of pairs, laid open. -/
theorem pairs_open {w : World} {B n : Nat} {v : Value} {cs : List (Int × Int)} (h : w.ownsRow B 32 2 v n (cells2 cs)) (hn : n = cs.length) (h0 : 0 < n) :
    ∃ g cap, v = .slice (some ⟨g, 0, none⟩) n cap ∧ B ≤ g ∧ ∀ i : Nat, i < n → w.cell? ⟨g, i * 2, none⟩ = some (.int .i64 (cs.getD i (0, 0)).1) ∧ w.cell? ⟨g, i * 2 + 1, none⟩ = some (.int .i64 (cs.getD i (0, 0)).2) := by
  obtain ⟨g, cap, hv, hB, hlt⟩ := h.form h0
  refine ⟨g, cap, hv, hB, fun i hi => ?_⟩
  have hc := h.cells (g := g) (by rw [hv]; rfl)
  have hat : ∀ (l : List (Int × Int)) (i : Nat), i < l.length → (cells2 l)[i * 2]? = some (.int .i64 (l.getD i (0, 0)).1) ∧ (cells2 l)[i * 2 + 1]? = some (.int .i64 (l.getD i (0, 0)).2) := by
    intro l
    induction l with
    | nil => intro i hi; simp at hi
    | cons x r ih =>
      intro i hi
      cases i with
      | zero => simp [cells2]
      | succ i =>
        obtain ⟨h1, h2⟩ := ih i (by simpa using hi)
        have e1 : cells2 (x :: r) = .int .i64 x.1 :: .int .i64 x.2 :: cells2 r := by simp [cells2]
        rw [e1, show (i + 1) * 2 = i * 2 + 1 + 1 by omega, show i * 2 + 1 + 1 + 1 = (i * 2 + 1) + 1 + 1 by omega]
        simp only [List.getElem?_cons_succ, List.getD_cons_succ]
        exact ⟨h1, h2⟩
  obtain ⟨h1, h2⟩ := hat cs i (by omega)
  have a1 := hc _ _ h1
  have a2 := hc _ _ h2
  rw [add_plain] at a1 a2
  exact ⟨a1, a2⟩

theorem cuts_length (l : List Int) : (cuts l).length ≤ l.length + 1 := by
  have h := (cst_le l l.length).2.2
  unfold cuts
  split
  · rw [List.length_append]; simp; omega
  · omega
/-- The rest of the law, behind the texts: both cut, lengths and texts compared, all pieces compared. -/
theorem feature_str (n : Int) (s : ByteArray) (hs : feat n = s) (w : World) (hT : Table w) : Calls Tryd.prog 15 #[.int .i64 n] w fun e w' => e = .returned (.string s) ∧ w = w' := by
  subst hs
  exact feature_any n w hT

set_option maxHeartbeats 3200000 in
set_option maxRecDepth 100000 in
theorem law_cuts_mid (n : Int) (hn : 5 ≤ n) (A0 : Option Addr) (c0 : Nat) (l : List Int) (w : World) (hr0 : Kd.C (Kd.int .i64) w A0 l.length l) (hc0 : l.length ≤ c0) (hT : Table w) (h0 : 0 < w.heap.size) (hl : l.length ≤ 200) :
    Calls Tryd.prog 4 #[.slice A0 l.length c0, .int .i64 n] w fun e w' => e = .returned (.bool true) ∧ Below w.heap.size w w' := by
  have hd : decide ((200 : Int) < (l.length : Int)) = false := by simp; omega
  have hd1 : decide ((0 : Int) < n) = true := by simp; omega
  have hd2 : decide (n < (5 : Int)) = false := by simp; omega
  have HF := Lib.hid (show feat n = ⟨#[]⟩ by unfold feat; rw [if_neg (by omega), if_neg (by omega), if_neg (by omega), if_neg (by omega)])
  go_enter Tryd.func4, Tryd.ntmps4
  go_wp2_with fail
  refine (alive_any _ hT h0).mono ?_
  rintro e w1 ⟨rfl, hb1⟩
  have hC1 := Kd.C_below hr0 hb1
  go_wp2_with (go_at_call 13; refine (cuts_any A0 c0 l _ (by exact Kd.C_alloc hC1 _) hc0 (by omega)).mono ?_)
  rintro e w2 ⟨v2, rfl, ho2, hb2⟩
  have hC2 := Kd.C_below (Kd.C_alloc hC1 _) hb2
  go_wp2_with (go_at_call 14; refine (ref_cuts_any A0 c0 l _ (by exact hC2) hc0 (by omega)).mono ?_)
  rintro e w3 ⟨v3, rfl, ho3, hb3⟩
  have hb13 : Below w.heap.size w w3 := below_step (below_step (below_alloc hb1 _) hb2) hb3
  have hT3 := hT.below h0 hb13
  have ho2' := pw_own_below ho2 hb3
  have hcl := cuts_length l
  rcases Nat.eq_zero_or_pos (cuts l).length with hz | hpos
  · rw [hz] at ho2' ho3
    obtain ⟨A2, k2, rfl⟩ := own_slice ho2'
    obtain ⟨A3, k3, rfl⟩ := own_slice ho3
    clear hz
    go_wp2_with (go_at_call 15; refine (feature_str n _ HF.out _ (by exact hT3)).mono ?_; rintro e w' ⟨rfl, rfl⟩)
    go_loopw [9] (fun i wr => i = .int .i64 0 ∧ wr = w3) (fun _ _ => 0)
    case atStart => exact ⟨rfl, rfl⟩
    case round =>
      obtain ⟨rfl, rfl⟩ := hrel
      go_wp2
      go_ret
      exact ⟨rfl, hb13⟩
  · obtain ⟨g2, k2, rfl, hg2, hx2⟩ := pairs_open ho2' rfl hpos
    obtain ⟨g3, k3, rfl, hg3, hx3⟩ := pairs_open ho3 rfl hpos
    go_wp2_with (go_at_call 15; refine (feature_str n _ HF.out _ (by exact hT3)).mono ?_; rintro e w' ⟨rfl, rfl⟩)
    go_loopw [9] (fun i wr => ∃ k m : Nat, k ≤ (cuts l).length ∧ i = .int .i64 k ∧ wr = w3.drewN m) (fun i _ => (cuts l).length - (intOf i).toNat)
    case atStart => exact ⟨0, 0, Nat.zero_le _, rfl, rfl⟩
    case round =>
      obtain ⟨k, m, hk, rfl, rfl⟩ := hrel
      by_cases hlt : k < (cuts l).length
      · obtain ⟨a1, a2⟩ := hx2 k hlt
        obtain ⟨a3, a4⟩ := hx3 k hlt
        have b1 : (0 : Int) ≤ (k : Int) := by omega
        have b2 : (k : Int) < ((cuts l).length : Int) := by omega
        obtain ⟨x, hx⟩ : ∃ x, x = ((cuts l).getD k (0, 0)).1 := ⟨_, rfl⟩
        obtain ⟨y, hy⟩ : ∃ y, y = ((cuts l).getD k (0, 0)).2 := ⟨_, rfl⟩
        rw [← hx] at a1 a3
        rw [← hy] at a2 a4
        clear hx hy hx2 hx3
        have hq := eq_same' x y
        have hg := Tryd.eqGuardType32
        go_wp2
        go_quiet (fail)
        go_wp2
        go_roundw
        case rel => exact ⟨k + 1, m + nq, by omega, by go_num, rfl⟩
        case measure => simp [intOf]; omega
      · go_wp2
        go_ret
        exact ⟨rfl, pw_below_drewN hb13 _⟩
end Go.Proofs.YtdaeombjdagnbaaDoor
