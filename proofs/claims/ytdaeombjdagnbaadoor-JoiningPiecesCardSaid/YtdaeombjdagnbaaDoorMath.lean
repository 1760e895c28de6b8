/- The plain laws of joining: neighbours, forms and pieces of a list of integers; what the printed functions come to. No condition. -/
import Derived.Test.YtdaeombjdagnbaaDoorPJoiningFormsx1
import Derived.Test.YtdaeombjdagnbaaDoorPJoiningFormsx2
import Derived.Test.YtdaeombjdagnbaaDoorPJoiningFormsx3
namespace Go.Proofs.YtdaeombjdagnbaaDoor.Math
open Go.RowKit Go.Proofs.YtdaeombjdagnbaaDoorW.PrintWords Go.Proofs.YtdaeombjdagnbaaDoorW.PrintLast Go.Proofs.YtdaeombjdagnbaaDoorW.PrintMore
open PJoiningForms

/-- Do two neighbours join? -/
def jn (a b : Int) : Bool := decide ((a = 2 ∨ a = 3 ∨ a = 4) ∧ (b = 1 ∨ b = 2 ∨ b = 4))
/-- The nearest one that isn't passed over. -/
def nb : List Int → Int
  | [] => 0
  | x :: r => if x = 5 then nb r else x
def lf (l : List Int) (i : Nat) : Int := nb (l.take i).reverse
def rg (l : List Int) (i : Nat) : Int := nb (l.drop (i + 1))
def fm (k a b : Int) : Int := if k = 1 ∨ k = 2 ∨ k = 3 then (if jn a k = true then (if jn k b = true then 3 else 2) else (if jn k b = true then 4 else 1)) else 0
def form (l : List Int) (i : Nat) : Int := fm (rd l i) (lf l i) (rg l i)
def forms (l : List Int) : List Int := (List.range l.length).map (form l)

theorem forms_length (l : List Int) : (forms l).length = l.length := by simp [forms]
theorem rd_forms (l : List Int) (i : Nat) (h : i < l.length) : rd (forms l) (i : Int) = form l i := by
  simp [rd, forms, List.getD, h]
theorem w64 {x : Int} (h1 : -9223372036854775808 ≤ x) (h2 : x ≤ 9223372036854775807) : wrap64 x = x := by unfold wrap64; omega

theorem joins_f (a b : Int) : joining_Joins.f a b = some (jn a b) := by
  unfold joining_Joins.f jn
  have hb : (b == 4) = decide (b = 4) := by rw [Bool.eq_iff_iff]; simp
  repeat' split
  all_goals (first | rfl | (congr 1; rw [hb]; apply decide_eq_decide.2; omega) | (congr 1; symm; apply decide_eq_true; omega) | (congr 1; symm; apply decide_eq_false; omega))
theorem ref_joins_f (a b : Int) : reedpenref23_Joins.f a b = some (jn a b) := by
  unfold reedpenref23_Joins.f jn
  have hb : (b == 4) = decide (b = 4) := by rw [Bool.eq_iff_iff]; simp
  repeat' split
  all_goals (first | rfl | (congr 1; rw [hb]; apply decide_eq_decide.2; omega) | (congr 1; symm; apply decide_eq_true; omega) | (congr 1; symm; apply decide_eq_false; omega))

theorem rd_drop (l : List Int) (i : Nat) (h : i < l.length) : l.drop i = rd l i :: l.drop (i + 1) := by
  rw [List.drop_eq_getElem_cons h]
  simp [rd, List.getD, h]
theorem rd_take (l : List Int) (i : Nat) (h : i < l.length) : (l.take (i + 1)).reverse = rd l i :: (l.take i).reverse := by
  rw [List.take_succ_eq_append_getElem h]
  simp [rd, List.getD, h]

/-- To the right. -/
theorem right_l0 (l : List Int) (hl : l.length ≤ 17592186044416) (d : Nat) : ∀ (k i : Nat), l.length = i + d → 2 * d + 2 ≤ k → joining_neighbour.l0 k l 1 (i : Int) = some (nb (l.drop i)) := by
  induction d with
  | zero =>
    intro k i hi hk
    obtain ⟨k, rfl⟩ : ∃ m, k = m + 2 := ⟨k - 2, by omega⟩
    simp only [joining_neighbour.l0]
    rw [if_pos (by omega)]
    simp only [joining_neighbour.j1]
    rw [if_neg (by simp; omega), List.drop_eq_nil_of_le (by omega)]
    rfl
  | succ d ih =>
    intro k i hi hk
    obtain ⟨k, rfl⟩ : ∃ m, k = m + 2 := ⟨k - 2, by omega⟩
    simp only [joining_neighbour.l0]
    rw [if_pos (by omega)]
    simp only [joining_neighbour.j1]
    rw [if_pos (by simp; omega), if_pos (by omega), if_pos (by omega), rd_drop l i (by omega)]
    by_cases h : rd l i = 5
    · rw [if_pos h, w64 (by omega) (by omega), show (i : Int) + 1 = ((i + 1 : Nat) : Int) by omega, ih k (i + 1) (by omega) (by omega)]
      simp [nb, h]
    · rw [if_neg h]
      simp [nb, h]
/-- To the left. -/
theorem left_l0 (l : List Int) (hl : l.length ≤ 17592186044416) (i : Nat) : ∀ (k : Nat), i ≤ l.length → 2 * i + 2 ≤ k → joining_neighbour.l0 k l (-1) ((i : Int) - 1) = some (nb (l.take i).reverse) := by
  induction i with
  | zero =>
    intro k hi hk
    obtain ⟨k, rfl⟩ : ∃ m, k = m + 2 := ⟨k - 2, by omega⟩
    simp only [joining_neighbour.l0]
    rw [if_neg (by omega)]
    simp [joining_neighbour.j1, nb]
  | succ i ih =>
    intro k hi hk
    obtain ⟨k, rfl⟩ : ∃ m, k = m + 2 := ⟨k - 2, by omega⟩
    rw [show ((i + 1 : Nat) : Int) - 1 = (i : Int) by omega]
    simp only [joining_neighbour.l0]
    rw [if_pos (by omega)]
    simp only [joining_neighbour.j1]
    rw [if_pos (by simp; omega), if_pos (by omega), if_pos (by omega), rd_take l i (by omega)]
    by_cases h : rd l i = 5
    · rw [if_pos h, w64 (by omega) (by omega), show (i : Int) + -1 = (i : Int) - 1 by omega, ih k (by omega) (by omega)]
      simp [nb, h]
    · rw [if_neg h]
      simp [nb, h]
theorem left_f (l : List Int) (hl : l.length ≤ 17592186044416) (i k : Nat) (hi : i ≤ l.length) (hk : 2 * l.length + 2 ≤ k) : joining_neighbour.f k l (i : Int) (-1) = some (lf l i) := by
  unfold joining_neighbour.f lf
  rw [w64 (by omega) (by omega), show (i : Int) + -1 = (i : Int) - 1 by omega]
  exact left_l0 l hl i k hi (by omega)
theorem right_f (l : List Int) (hl : l.length ≤ 17592186044416) (i k : Nat) (hi : i < l.length) (hk : 2 * l.length + 2 ≤ k) : joining_neighbour.f k l (i : Int) 1 = some (rg l i) := by
  unfold joining_neighbour.f rg
  rw [w64 (by omega) (by omega), show (i : Int) + 1 = ((i + 1 : Nat) : Int) by omega]
  exact right_l0 l hl (l.length - (i + 1)) k (i + 1) (by omega) (by omega)

theorem form_f (l : List Int) (hl : l.length ≤ 17592186044416) (i k : Nat) (hi : i < l.length) (hk : 2 * l.length + 4 ≤ k) : joining_form.f k l (i : Int) = some (form l i) := by
  obtain ⟨k, rfl⟩ : ∃ m, k = m + 2 := ⟨k - 2, by omega⟩
  have hj : joining_form.j0 (k + 2) l (i : Int) (rd l i) false = some (if jn (lf l i) (rd l i) = true then (if jn (rd l i) (rg l i) = true then 3 else 2) else (if jn (rd l i) (rg l i) = true then 4 else 1)) := by
    simp only [joining_form.j0]
    rw [left_f l hl i _ (by omega) (by omega), right_f l hl i _ hi (by omega)]
    simp only [Option.bind_some, joins_f, joining_form.j1]
    cases jn (lf l i) (rd l i) <;> cases jn (rd l i) (rg l i) <;> simp
  unfold joining_form.f form fm
  rw [if_pos (by omega), if_pos (by omega)]
  by_cases h1 : rd l i = 1
  · rw [if_pos h1, if_pos (by omega), hj]
  · rw [if_neg h1]
    by_cases h2 : rd l i = 2
    · rw [if_pos h2, if_pos (by omega), hj]
    · rw [if_neg h2]
      by_cases h3 : rd l i = 3
      · rw [show (rd l i != 3) = false by simp [h3], if_pos (by omega), hj]
      · rw [show (rd l i != 3) = true by simp [h3], if_neg (by omega)]
        simp [joining_form.j0]

theorem forms_l0 (l : List Int) (hl : l.length ≤ 17592186044415) (d : Nat) : ∀ (k i : Nat), l.length = i + d → 2 * l.length + 5 + d ≤ k →
    joining_Forms.l0 k l ((List.range i).map (form l)) (l.length : Int) (i : Int) = some (forms l) := by
  induction d with
  | zero =>
    intro k i hi hk
    obtain ⟨k, rfl⟩ : ∃ m, k = m + 1 := ⟨k - 1, by omega⟩
    simp only [joining_Forms.l0]
    rw [if_neg (by omega)]
    unfold forms
    rw [hi, Nat.add_zero]
  | succ d ih =>
    intro k i hi hk
    obtain ⟨k, rfl⟩ : ∃ m, k = m + 1 := ⟨k - 1, by omega⟩
    simp only [joining_Forms.l0]
    rw [if_pos (by omega), form_f l (by omega) i k (by omega) (by omega)]
    simp only [Option.bind_some, List.length_map, List.length_range]
    rw [if_pos (by omega), w64 (by omega) (by omega), show (i : Int) + 1 = ((i + 1 : Nat) : Int) by omega]
    have := ih k (i + 1) (by omega) (by omega)
    rw [List.range_succ, List.map_append] at this
    exact this
theorem forms_f (l : List Int) (hl : l.length ≤ 17592186044415) (k : Nat) (hk : 3 * l.length + 5 ≤ k) : joining_Forms.f k l = some (forms l) := by
  unfold joining_Forms.f
  exact forms_l0 l hl l.length k 0 (by omega) (by omega)

/-! Ints -/
theorem ints_l0 (l m : List Int) (hl : l.length ≤ 17592186044416) (hm : l.length = m.length) (d : Nat) : ∀ (k i : Nat), l.length = i + d → d + 1 ≤ k →
    reedpenref01_Ints.l0 k l m (i : Int) = some (decide (l.drop i = m.drop i)) := by
  induction d with
  | zero =>
    intro k i hi hk
    obtain ⟨k, rfl⟩ : ∃ m, k = m + 1 := ⟨k - 1, by omega⟩
    simp only [reedpenref01_Ints.l0]
    rw [if_neg (by omega), List.drop_eq_nil_of_le (by omega), List.drop_eq_nil_of_le (by omega)]
    simp
  | succ d ih =>
    intro k i hi hk
    obtain ⟨k, rfl⟩ : ∃ m, k = m + 1 := ⟨k - 1, by omega⟩
    simp only [reedpenref01_Ints.l0]
    rw [if_pos (by omega), if_pos (by omega), if_pos (by omega), w64 (by omega) (by omega), show (i : Int) + 1 = ((i + 1 : Nat) : Int) by omega, ih k (i + 1) (by omega) (by omega), rd_drop l i (by omega), rd_drop m i (by omega)]
    by_cases h : rd l i = rd m i
    · rw [if_pos h, h]
      simp
    · rw [if_neg h]
      simp [h]
theorem ints_f (l m : List Int) (hl : l.length ≤ 17592186044416) (k : Nat) (hk : l.length + 1 ≤ k) : reedpenref01_Ints.f k l m = some (decide (l = m)) := by
  unfold reedpenref01_Ints.f
  by_cases h : (l.length : Int) = m.length
  · rw [if_pos h]
    exact ints_l0 l m hl (by omega) l.length k 0 (by omega) hk
  · rw [if_neg h]
    have : l ≠ m := fun e => h (by rw [e])
    simp [this]

/-! The reference's places -/
def seen (l : List Int) (m : Nat) : List Int := ((List.range m).filter fun (i : Nat) => decide (rd l (i : Int) ≠ 5)).map fun (i : Nat) => (i : Int)
theorem seen_succ (l : List Int) (m : Nat) : seen l (m + 1) = if rd l (m : Int) = 5 then seen l m else seen l m ++ [(m : Int)] := by
  unfold seen
  rw [List.range_succ, List.filter_append, List.map_append]
  by_cases h : rd l (m : Int) = 5 <;> simp [h]
theorem seen_length (l : List Int) (m : Nat) : (seen l m).length ≤ m := by
  unfold seen
  rw [List.length_map]
  exact Nat.le_trans (List.length_filter_le _ _) (by simp)
theorem seen_l0 (l : List Int) (hl : l.length ≤ 17592186044416) (d : Nat) : ∀ (k i : Nat), l.length = i + d → d + 1 ≤ k →
    reedpenref23_Seen.l0 k l (seen l i) (i : Int) = some (seen l l.length) := by
  induction d with
  | zero =>
    intro k i hi hk
    obtain ⟨k, rfl⟩ : ∃ m, k = m + 1 := ⟨k - 1, by omega⟩
    simp only [reedpenref23_Seen.l0]
    rw [if_neg (by omega), hi, Nat.add_zero]
  | succ d ih =>
    intro k i hi hk
    obtain ⟨k, rfl⟩ : ∃ m, k = m + 1 := ⟨k - 1, by omega⟩
    have hs := ih k (i + 1) (by omega) (by omega)
    have hle := seen_length l i
    rw [seen_succ] at hs
    simp only [reedpenref23_Seen.l0]
    rw [if_pos (by omega), if_pos (by omega), w64 (by omega) (by omega), show (i : Int) + 1 = ((i + 1 : Nat) : Int) by omega]
    by_cases h : rd l i = 5
    · rw [if_pos h] at hs ⊢
      exact hs
    · rw [if_neg h] at hs ⊢
      rw [if_pos (by omega)]
      exact hs
theorem seen_f (l : List Int) (hl : l.length ≤ 17592186044416) (k : Nat) (hk : l.length + 1 ≤ k) : reedpenref23_Seen.f k l = some (seen l l.length) := by
  unfold reedpenref23_Seen.f
  exact seen_l0 l hl l.length k 0 (by omega) hk
end Go.Proofs.YtdaeombjdagnbaaDoor.Math
