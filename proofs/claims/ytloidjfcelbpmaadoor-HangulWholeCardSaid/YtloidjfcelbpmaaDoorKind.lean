/- What the call of Kind does. Condition: the table's block. -/
import Derived.Test.YtloidjfcelbpmaaDoorTable
import Derived.Test.YtloidjfcelbpmaaDoorPHangulPartsx1
import Derived.Test.YtloidjfcelbpmaaDoorPHangulPartsx2
import Derived.Test.YtloidjfcelbpmaaDoorPHangulPartsx3
import Derived.OneCell
import Derived.Lib.Hide
import Derived.Outline
namespace Go.Proofs.YtloidjfcelbpmaaDoor
open Go.RowKit Go.Proofs.YtloidjfcelbpmaaDoorW.PrintWords Go.Proofs.YtloidjfcelbpmaaDoorW.PrintLast Go.Proofs.YtloidjfcelbpmaaDoorW.PrintMore
open PHangulParts

/-- A code's kind. -/
def kind (c : Int) : Int :=
  if 44032 ≤ c ∧ c ≤ 55203 then (if (c - 44032) % 28 = 0 then 4 else 5)
  else if 4352 ≤ c ∧ c ≤ 4447 ∨ 43360 ≤ c ∧ c ≤ 43388 then 1
  else if 4448 ≤ c ∧ c ≤ 4519 ∨ 55216 ≤ c ∧ c ≤ 55238 then 2
  else if 4520 ≤ c ∧ c ≤ 4607 ∨ 55243 ≤ c ∧ c ≤ 55291 then 3 else 0
theorem syll_f (c : Int) : hangul_syllable.f c = some (decide (44032 ≤ c ∧ c ≤ 55203)) := by
  unfold hangul_syllable.f
  split
  · congr 1
    apply decide_eq_decide.2
    omega
  · congr 1
    symm
    apply decide_eq_false
    omega
theorem kind_range (c : Int) : 0 ≤ kind c ∧ kind c ≤ 5 := by
  unfold kind
  repeat' split
  all_goals omega

/-- Where round k looks, and what it answers. -/
def lo (k : Nat) : Int := [4352, 43360, 4448, 55216, 4520, 55243].getD k 0
def hi (k : Nat) : Int := [4447, 43388, 4519, 55238, 4607, 55291].getD k 0

theorem kind_at (c : Int) (k : Nat) (hs : ¬ (44032 ≤ c ∧ c ≤ 55203)) (hk : k < 6) (hin : lo k ≤ c ∧ c ≤ hi k) (_ : ∀ j : Nat, j < k → ¬ (lo j ≤ c ∧ c ≤ hi j)) : kind c = [1, 1, 2, 2, 3, 3].getD k 0 := by
  rcases (show k = 0 ∨ k = 1 ∨ k = 2 ∨ k = 3 ∨ k = 4 ∨ k = 5 by omega) with rfl | rfl | rfl | rfl | rfl | rfl
  all_goals
    simp [lo, hi] at hin
    unfold kind
    rw [if_neg hs]
    repeat' split
    all_goals first | rfl | omega
theorem no_next (c : Int) (k : Nat) (_ : k < 6) (hin : ¬ (lo k ≤ c ∧ c ≤ hi k)) (h : ∀ j : Nat, j < k → ¬ (lo j ≤ c ∧ c ≤ hi j)) : ∀ j : Nat, j < k + 1 → ¬ (lo j ≤ c ∧ c ≤ hi j) := by
  intro j hj
  rcases Nat.lt_or_ge j k with h' | h'
  · exact h j h'
  · obtain rfl : j = k := by omega
    exact hin
theorem kind_none (c : Int) (hs : ¬ (44032 ≤ c ∧ c ≤ 55203)) (h : ∀ j : Nat, j < 6 → ¬ (lo j ≤ c ∧ c ≤ hi j)) : kind c = 0 := by
  have a0 := h 0 (by decide)
  have a1 := h 1 (by decide)
  have a2 := h 2 (by decide)
  have a3 := h 3 (by decide)
  have a4 := h 4 (by decide)
  have a5 := h 5 (by decide)
  simp [lo, hi] at a0 a1 a2 a3 a4 a5
  unfold kind
  rw [if_neg hs]
  repeat' split
  all_goals first | rfl | omega

set_option maxHeartbeats 3200000 in
set_option maxRecDepth 100000 in
theorem kind_any (c : Int) (h1 : -2147483648 ≤ c) (h2 : c ≤ 2147483647) (w : World) (hT : Table w) :
    Calls Tryd.prog 10 #[.int .i32 c] w fun e w' => e = .returned (.int .i64 (kind c)) ∧ Below w.heap.size w w' := by
  have HS := Lib.hid (syll_f c)
  by_cases hs : 44032 ≤ c ∧ c ≤ 55203
  · have HS' := Lib.hid (HS.out.trans (congrArg some (decide_eq_true hs)))
    obtain ⟨g1, g2⟩ := hs
    by_cases hm : (c - 44032) % 28 = 0
    · have HK := Lib.hid (show kind c = 4 by unfold kind; rw [if_pos ⟨g1, g2⟩, if_pos hm])
      have db : ((c - 44032) % 28 == 0) = true := by rw [beq_iff_eq]; exact hm
      clear HS hm
      go_enter Tryd.func10, Tryd.ntmps10
      go_wp2_with (go_at_call 20; refine (hangul_syllable.calls c _ _ HS'.out).mono ?_; rintro e w' ⟨rfl, ⟨n1, rfl⟩⟩)
      go_ret
      exact ⟨by rw [HK.out]; rfl, pw_below_drewN (Below.refl _ _) _⟩
    · have HK := Lib.hid (show kind c = 5 by unfold kind; rw [if_pos ⟨g1, g2⟩, if_neg hm])
      have db : ((c - 44032) % 28 == 0) = false := by rw [beq_eq_false_iff_ne]; exact hm
      clear HS hm
      go_enter Tryd.func10, Tryd.ntmps10
      go_wp2_with (go_at_call 20; refine (hangul_syllable.calls c _ _ HS'.out).mono ?_; rintro e w' ⟨rfl, ⟨n1, rfl⟩⟩)
      go_ret
      exact ⟨by rw [HK.out]; rfl, pw_below_drewN (Below.refl _ _) _⟩
  · have HS' := Lib.hid (HS.out.trans (congrArg some (decide_eq_false hs)))
    have HN := Lib.hid hs
    clear HS hs
    obtain ⟨tt, fr, hb0⟩ := hT
    have HB0 := Lib.hid hb0
    clear hb0
    go_enter Tryd.func10, Tryd.ntmps10
    go_wp2_with (first | (go_at_call 20; refine (hangul_syllable.calls c _ _ HS'.out).mono ?_; rintro e w' ⟨rfl, ⟨n1, rfl⟩⟩) | (refine wpList_load_row rfl 39 (.global 0) rfl 0 rfl tt _ fr _ HB0.out Tryd.underlying39 rfl (by kernel_rfl) ?_))
    go_loopw [12] (fun i wr => ∃ k : Nat, k ≤ 6 ∧ i = .int .i64 k ∧ Aside0 (∀ j : Nat, j < k → ¬ (lo j ≤ c ∧ c ≤ hi j)) ∧ Below w.heap.size w wr) (fun i _ => 6 - (intOf i).toNat)
    case atStart => exact ⟨0, by omega, rfl, ⟨fun j hj => by omega⟩, pw_below_drewN (Below.refl _ _) _⟩
    case round =>
      obtain ⟨k, hk, rfl, HNO, hb⟩ := hrel
      have hsz := hb.size
      rcases (show k = 0 ∨ k = 1 ∨ k = 2 ∨ k = 3 ∨ k = 4 ∨ k = 5 ∨ k = 6 by omega) with rfl | rfl | rfl | rfl | rfl | rfl | rfl
      · have ix : ∀ w : World, (Instr.index 39 (.agg #[.int .i32 4352, .int .i32 4447, .int .i32 1, .int .i32 43360, .int .i32 43388, .int .i32 1, .int .i32 4448, .int .i32 4519, .int .i32 2, .int .i32 55216, .int .i32 55238, .int .i32 2, .int .i32 4520, .int .i32 4607, .int .i32 3, .int .i32 55243, .int .i32 55291, .int .i32 3]) (.int .i64 0)).run Tryd.prog w = .ok (.agg #[.int .i32 4352, .int .i32 4447, .int .i32 1]) w := fun _ => by kernel_rfl
        by_cases hin : 4352 ≤ c ∧ c ≤ 4447
        · have HK := Lib.hid (show kind c = 1 from kind_at c 0 HN.out (by decide) hin HNO.out)
          obtain ⟨g1, g2⟩ := hin
          go_wp2
          go_ret
          exact ⟨by rw [HK.out]; rfl, below_alloc hb _⟩
        · have HNO' := Aside0.mk (no_next c 0 (by decide) hin HNO.out)
          by_cases g1 : 4352 ≤ c
          · have g2 : ¬ c ≤ 4447 := fun h => hin ⟨g1, h⟩
            clear hin
            go_wp2
            go_roundw
            case rel => exact ⟨1, by omega, rfl, HNO', below_alloc hb _⟩
            case measure => simp [intOf]
          · clear hin
            go_wp2
            go_roundw
            case rel => exact ⟨1, by omega, rfl, HNO', below_alloc hb _⟩
            case measure => simp [intOf]
      · have ix : ∀ w : World, (Instr.index 39 (.agg #[.int .i32 4352, .int .i32 4447, .int .i32 1, .int .i32 43360, .int .i32 43388, .int .i32 1, .int .i32 4448, .int .i32 4519, .int .i32 2, .int .i32 55216, .int .i32 55238, .int .i32 2, .int .i32 4520, .int .i32 4607, .int .i32 3, .int .i32 55243, .int .i32 55291, .int .i32 3]) (.int .i64 1)).run Tryd.prog w = .ok (.agg #[.int .i32 43360, .int .i32 43388, .int .i32 1]) w := fun _ => by kernel_rfl
        by_cases hin : 43360 ≤ c ∧ c ≤ 43388
        · have HK := Lib.hid (show kind c = 1 from kind_at c 1 HN.out (by decide) hin HNO.out)
          obtain ⟨g1, g2⟩ := hin
          go_wp2
          go_ret
          exact ⟨by rw [HK.out]; rfl, below_alloc hb _⟩
        · have HNO' := Aside0.mk (no_next c 1 (by decide) hin HNO.out)
          by_cases g1 : 43360 ≤ c
          · have g2 : ¬ c ≤ 43388 := fun h => hin ⟨g1, h⟩
            clear hin
            go_wp2
            go_roundw
            case rel => exact ⟨2, by omega, rfl, HNO', below_alloc hb _⟩
            case measure => simp [intOf]
          · clear hin
            go_wp2
            go_roundw
            case rel => exact ⟨2, by omega, rfl, HNO', below_alloc hb _⟩
            case measure => simp [intOf]
      · have ix : ∀ w : World, (Instr.index 39 (.agg #[.int .i32 4352, .int .i32 4447, .int .i32 1, .int .i32 43360, .int .i32 43388, .int .i32 1, .int .i32 4448, .int .i32 4519, .int .i32 2, .int .i32 55216, .int .i32 55238, .int .i32 2, .int .i32 4520, .int .i32 4607, .int .i32 3, .int .i32 55243, .int .i32 55291, .int .i32 3]) (.int .i64 2)).run Tryd.prog w = .ok (.agg #[.int .i32 4448, .int .i32 4519, .int .i32 2]) w := fun _ => by kernel_rfl
        by_cases hin : 4448 ≤ c ∧ c ≤ 4519
        · have HK := Lib.hid (show kind c = 2 from kind_at c 2 HN.out (by decide) hin HNO.out)
          obtain ⟨g1, g2⟩ := hin
          go_wp2
          go_ret
          exact ⟨by rw [HK.out]; rfl, below_alloc hb _⟩
        · have HNO' := Aside0.mk (no_next c 2 (by decide) hin HNO.out)
          by_cases g1 : 4448 ≤ c
          · have g2 : ¬ c ≤ 4519 := fun h => hin ⟨g1, h⟩
            clear hin
            go_wp2
            go_roundw
            case rel => exact ⟨3, by omega, rfl, HNO', below_alloc hb _⟩
            case measure => simp [intOf]
          · clear hin
            go_wp2
            go_roundw
            case rel => exact ⟨3, by omega, rfl, HNO', below_alloc hb _⟩
            case measure => simp [intOf]
      · have ix : ∀ w : World, (Instr.index 39 (.agg #[.int .i32 4352, .int .i32 4447, .int .i32 1, .int .i32 43360, .int .i32 43388, .int .i32 1, .int .i32 4448, .int .i32 4519, .int .i32 2, .int .i32 55216, .int .i32 55238, .int .i32 2, .int .i32 4520, .int .i32 4607, .int .i32 3, .int .i32 55243, .int .i32 55291, .int .i32 3]) (.int .i64 3)).run Tryd.prog w = .ok (.agg #[.int .i32 55216, .int .i32 55238, .int .i32 2]) w := fun _ => by kernel_rfl
        by_cases hin : 55216 ≤ c ∧ c ≤ 55238
        · have HK := Lib.hid (show kind c = 2 from kind_at c 3 HN.out (by decide) hin HNO.out)
          obtain ⟨g1, g2⟩ := hin
          go_wp2
          go_ret
          exact ⟨by rw [HK.out]; rfl, below_alloc hb _⟩
        · have HNO' := Aside0.mk (no_next c 3 (by decide) hin HNO.out)
          by_cases g1 : 55216 ≤ c
          · have g2 : ¬ c ≤ 55238 := fun h => hin ⟨g1, h⟩
            clear hin
            go_wp2
            go_roundw
            case rel => exact ⟨4, by omega, rfl, HNO', below_alloc hb _⟩
            case measure => simp [intOf]
          · clear hin
            go_wp2
            go_roundw
            case rel => exact ⟨4, by omega, rfl, HNO', below_alloc hb _⟩
            case measure => simp [intOf]
      · have ix : ∀ w : World, (Instr.index 39 (.agg #[.int .i32 4352, .int .i32 4447, .int .i32 1, .int .i32 43360, .int .i32 43388, .int .i32 1, .int .i32 4448, .int .i32 4519, .int .i32 2, .int .i32 55216, .int .i32 55238, .int .i32 2, .int .i32 4520, .int .i32 4607, .int .i32 3, .int .i32 55243, .int .i32 55291, .int .i32 3]) (.int .i64 4)).run Tryd.prog w = .ok (.agg #[.int .i32 4520, .int .i32 4607, .int .i32 3]) w := fun _ => by kernel_rfl
        by_cases hin : 4520 ≤ c ∧ c ≤ 4607
        · have HK := Lib.hid (show kind c = 3 from kind_at c 4 HN.out (by decide) hin HNO.out)
          obtain ⟨g1, g2⟩ := hin
          go_wp2
          go_ret
          exact ⟨by rw [HK.out]; rfl, below_alloc hb _⟩
        · have HNO' := Aside0.mk (no_next c 4 (by decide) hin HNO.out)
          by_cases g1 : 4520 ≤ c
          · have g2 : ¬ c ≤ 4607 := fun h => hin ⟨g1, h⟩
            clear hin
            go_wp2
            go_roundw
            case rel => exact ⟨5, by omega, rfl, HNO', below_alloc hb _⟩
            case measure => simp [intOf]
          · clear hin
            go_wp2
            go_roundw
            case rel => exact ⟨5, by omega, rfl, HNO', below_alloc hb _⟩
            case measure => simp [intOf]
      · have ix : ∀ w : World, (Instr.index 39 (.agg #[.int .i32 4352, .int .i32 4447, .int .i32 1, .int .i32 43360, .int .i32 43388, .int .i32 1, .int .i32 4448, .int .i32 4519, .int .i32 2, .int .i32 55216, .int .i32 55238, .int .i32 2, .int .i32 4520, .int .i32 4607, .int .i32 3, .int .i32 55243, .int .i32 55291, .int .i32 3]) (.int .i64 5)).run Tryd.prog w = .ok (.agg #[.int .i32 55243, .int .i32 55291, .int .i32 3]) w := fun _ => by kernel_rfl
        by_cases hin : 55243 ≤ c ∧ c ≤ 55291
        · have HK := Lib.hid (show kind c = 3 from kind_at c 5 HN.out (by decide) hin HNO.out)
          obtain ⟨g1, g2⟩ := hin
          go_wp2
          go_ret
          exact ⟨by rw [HK.out]; rfl, below_alloc hb _⟩
        · have HNO' := Aside0.mk (no_next c 5 (by decide) hin HNO.out)
          by_cases g1 : 55243 ≤ c
          · have g2 : ¬ c ≤ 55291 := fun h => hin ⟨g1, h⟩
            clear hin
            go_wp2
            go_roundw
            case rel => exact ⟨6, by omega, rfl, HNO', below_alloc hb _⟩
            case measure => simp [intOf]
          · clear hin
            go_wp2
            go_roundw
            case rel => exact ⟨6, by omega, rfl, HNO', below_alloc hb _⟩
            case measure => simp [intOf]
      · have HK := Lib.hid (show kind c = 0 from kind_none c HN.out HNO.out)
        go_wp2
        go_ret
        exact ⟨by rw [HK.out]; rfl, hb⟩
end Go.Proofs.YtloidjfcelbpmaaDoor
