/- The plain laws of syllables: parts, wholes, kinds; what the printed functions come to. Conditions: the numbers are of their kind. -/
import Derived.Test.YtloidjfcelbpmaaDoorKind
namespace Go.Proofs.YtloidjfcelbpmaaDoor
open Go.RowKit Go.Proofs.YtloidjfcelbpmaaDoorW.PrintWords Go.Proofs.YtloidjfcelbpmaaDoorW.PrintLast Go.Proofs.YtloidjfcelbpmaaDoorW.PrintMore
open PHangulParts

theorem w64 {x : Int} (h1 : -9223372036854775808 ≤ x) (h2 : x ≤ 9223372036854775807) : wrap64 x = x := by unfold wrap64; omega
theorem w32 {x : Int} (h1 : -2147483648 ≤ x) (h2 : x ≤ 2147483647) : wrap32 x = x := by unfold wrap32; omega
def ok32 (x : Int) : Prop := -2147483648 ≤ x ∧ x ≤ 2147483647

/-- A syllable's parts. -/
def parts (c : Int) : List Int :=
  if 44032 ≤ c ∧ c ≤ 55203 then
    (if (c - 44032) % 28 = 0 then [4352 + (c - 44032) / 588, 4449 + (c - 44032) / 28 % 21]
     else [4352 + (c - 44032) / 588, 4449 + (c - 44032) / 28 % 21, 4519 + (c - 44032) % 28])
  else [c]
/-- The syllable of parts. -/
def whole (l : List Int) : Int × Bool :=
  match l with
  | [a, b] => if 4352 ≤ a ∧ a < 4371 ∧ 4449 ≤ b ∧ b < 4470 then (44032 + 588 * (a - 4352) + 28 * (b - 4449), true) else (0, false)
  | [a, b, c] => if 4352 ≤ a ∧ a < 4371 ∧ 4449 ≤ b ∧ b < 4470 ∧ 4520 ≤ c ∧ c < 4547 then (44032 + 588 * (a - 4352) + 28 * (b - 4449) + (c - 4519), true) else (0, false)
  | _ => (0, false)

theorem parts_f (c : Int) : hangul_Parts.f c = some (parts c) := by
  unfold hangul_Parts.f parts
  rw [syll_f, Option.bind_some]
  by_cases h : 44032 ≤ c ∧ c ≤ 55203
  · rw [if_pos (decide_eq_true h), if_pos h, Option.bind_some]
    obtain ⟨h1, h2⟩ := h
    rw [w32 (x := c - 44032) (by omega) (by omega), Int.tmod_eq_emod_of_nonneg (by omega), Int.tdiv_eq_ediv_of_nonneg (by omega), Int.tdiv_eq_ediv_of_nonneg (by omega)]
    rw [w32 (x := (c - 44032) / 28) (by omega) (by omega), Int.tmod_eq_emod_of_nonneg (by omega), w32 (x := (c - 44032) / 588) (by omega) (by omega), w32 (by omega) (by omega), w32 (by omega) (by omega), w32 (by omega) (by omega)]
    by_cases hm : (c - 44032) % 28 = 0
    · rw [if_pos hm, if_pos hm]
    · rw [if_neg hm, if_neg hm]
      simp
  · rw [if_neg (by simpa using h), if_neg h]
theorem ref_kind_f (c : Int) (k : Nat) (hk : 3 ≤ k) : reedpenref22_Kind.f k c = some (kind c) := by
  obtain ⟨k, rfl⟩ : ∃ m, k = m + 3 := ⟨k - 3, by omega⟩
  unfold reedpenref22_Kind.f kind
  by_cases h : 44032 ≤ c ∧ c ≤ 55203
  · obtain ⟨h1, h2⟩ := h
    rw [if_pos (by omega), if_pos ⟨h1, h2⟩, decide_eq_true h2]
    simp only [reedpenref22_Kind.j0, if_true]
    rw [w32 (x := c - 44032) (by omega) (by omega), w64 (x := c - 44032) (by omega) (by omega), Int.tmod_eq_emod_of_nonneg (by omega)]
    split <;> split <;> first | rfl | omega
  · have e : (if c ≥ 44032 then reedpenref22_Kind.j0 (k + 3) c (decide (c ≤ 55203)) else reedpenref22_Kind.j0 (k + 3) c false) = reedpenref22_Kind.j0 (k + 3) c false := by
      by_cases h' : c ≥ 44032
      · rw [if_pos h', decide_eq_false (by omega)]
      · rw [if_neg h']
    rw [e, if_neg h]
    simp only [reedpenref22_Kind.j0, reedpenref22_Kind.j1, reedpenref22_Kind.j2, decide_eq_true_eq, if_true, Bool.false_eq_true, if_false]
    rcases (show c < 4352 ∨ (4352 ≤ c ∧ c ≤ 4447) ∨ (4448 ≤ c ∧ c ≤ 4519) ∨ (4520 ≤ c ∧ c ≤ 4607) ∨ (4608 ≤ c ∧ c < 43360) ∨ (43360 ≤ c ∧ c ≤ 43388) ∨ (43389 ≤ c ∧ c < 44032) ∨ (55204 ≤ c ∧ c < 55216) ∨ (55216 ≤ c ∧ c ≤ 55238) ∨ (55239 ≤ c ∧ c < 55243) ∨ (55243 ≤ c ∧ c ≤ 55291) ∨ 55292 ≤ c by omega) with h' | h' | h' | h' | h' | h' | h' | h' | h' | h' | h' | h'
    all_goals
      clear e h
      simp (disch := omega) only [if_pos, if_neg]
theorem ref_parts_f (c : Int) (hc : ok32 c) (k : Nat) (hk : 3 ≤ k) : reedpenref22_Parts.f k c = some (parts c) := by
  unfold reedpenref22_Parts.f parts
  unfold ok32 at hc
  rw [ref_kind_f c k hk, Option.bind_some]
  by_cases h : 44032 ≤ c ∧ c ≤ 55203
  · have hk4 : ¬ kind c < 4 := by
      unfold kind
      rw [if_pos h]
      split <;> omega
    rw [if_neg hk4, if_pos h]
    obtain ⟨h1, h2⟩ := h
    rw [w64 (x := c) (by omega) (by omega), w64 (x := c - 44032) (by omega) (by omega), Int.tmod_eq_emod_of_nonneg (a := c - 44032) (by omega)]
    rw [w64 (x := c - 44032 - (c - 44032) % 28) (by omega) (by omega), Int.tdiv_eq_ediv_of_nonneg (a := c - 44032 - (c - 44032) % 28) (by omega)]
    rw [w64 (x := (c - 44032 - (c - 44032) % 28) / 28) (by omega) (by omega), Int.tmod_eq_emod_of_nonneg (by omega), w64 (x := 28 * _) (by omega) (by omega)]
    rw [w64 (x := c - 44032 - (c - 44032) % 28 - 28 * ((c - 44032 - (c - 44032) % 28) / 28 % 21)) (by omega) (by omega), Int.tdiv_eq_ediv_of_nonneg (by omega), w64 (x := (c - 44032 - (c - 44032) % 28 - 28 * ((c - 44032 - (c - 44032) % 28) / 28 % 21)) / 588) (by omega) (by omega)]
    rw [w64 (by omega) (by omega), w64 (by omega) (by omega), w64 (by omega) (by omega), w32 (by omega) (by omega), w32 (by omega) (by omega), w32 (by omega) (by omega)]
    have e1 : (c - 44032 - (c - 44032) % 28) / 28 = (c - 44032) / 28 := by omega
    have e2 : (c - 44032 - (c - 44032) % 28 - 28 * ((c - 44032) / 28 % 21)) / 588 = (c - 44032) / 588 := by omega
    rw [e1, e2]
    split <;> rfl
  · have hk4 : kind c < 4 := by
      unfold kind
      rw [if_neg h]
      repeat' split
      all_goals omega
    rw [if_pos hk4, if_neg h]

theorem whole_f (l : List Int) (k : Nat) (hk : 2 ≤ k) : hangul_Whole.f k l = some (whole l) := by
  obtain ⟨k, rfl⟩ : ∃ m, k = m + 2 := ⟨k - 2, by omega⟩
  match l with
  | [] => rfl
  | [a] => rfl
  | [a, b] =>
    unfold hangul_Whole.f whole
    simp [hangul_Whole.j0, hangul_Whole.j1, rd]
    repeat' split
    all_goals first
      | rfl
      | (exfalso; omega)
      | (rw [w32 (x := a - 4352) (by omega) (by omega), w32 (x := (a - 4352) * 21) (by omega) (by omega), w32 (x := (a - 4352) * 21 + b) (by omega) (by omega), w32 (x := (a - 4352) * 21 + b - 4449) (by omega) (by omega), w32 (x := ((a - 4352) * 21 + b - 4449) * 28) (by omega) (by omega), w32 (by omega) (by omega)]; simp; omega)
  | [a, b, c] =>
    unfold hangul_Whole.f whole
    simp [hangul_Whole.j0, hangul_Whole.j1, rd]
    repeat' split
    all_goals first
      | rfl
      | (exfalso; omega)
      | (rw [w32 (x := a - 4352) (by omega) (by omega), w32 (x := (a - 4352) * 21) (by omega) (by omega), w32 (x := (a - 4352) * 21 + b) (by omega) (by omega), w32 (x := (a - 4352) * 21 + b - 4449) (by omega) (by omega), w32 (x := ((a - 4352) * 21 + b - 4449) * 28) (by omega) (by omega), w32 (x := c - 4519) (by omega) (by omega), w32 (x := ((a - 4352) * 21 + b - 4449) * 28 + (c - 4519)) (by omega) (by omega), w32 (by omega) (by omega)]; simp; omega)
  | a :: b :: c :: d :: r =>
    unfold hangul_Whole.f whole
    rw [if_neg (by simp; omega), decide_eq_true (by simp; omega)]
    simp [hangul_Whole.j0]
theorem ref_whole_f (l : List Int) (hl : ∀ x ∈ l, ok32 x) (k : Nat) (hk : 2 ≤ k) : reedpenref22_Whole.f k l = some (whole l) := by
  obtain ⟨k, rfl⟩ : ∃ m, k = m + 2 := ⟨k - 2, by omega⟩
  match l, hl with
  | [], _ => rfl
  | [a], _ => rfl
  | [a, b], hl =>
    have ha := hl a (by simp)
    have hb := hl b (by simp)
    unfold ok32 at ha hb
    unfold reedpenref22_Whole.f whole
    simp [reedpenref22_Whole.j0, rd]
    rw [w64 (x := a) (by omega) (by omega), w64 (x := a - 4352) (by omega) (by omega), w64 (x := b) (by omega) (by omega), w64 (x := b - 4449) (by omega) (by omega)]
    repeat' split
    all_goals first
      | rfl
      | (exfalso; omega)
      | (rw [w64 (x := 588 * (a - 4352)) (by omega) (by omega), w64 (x := 44032 + 588 * (a - 4352)) (by omega) (by omega), w64 (x := 28 * (b - 4449)) (by omega) (by omega), w64 (x := 44032 + 588 * (a - 4352) + 28 * (b - 4449)) (by omega) (by omega), w64 (x := 44032 + 588 * (a - 4352) + 28 * (b - 4449)) (by omega) (by omega), w32 (by omega) (by omega)])
  | [a, b, c], hl =>
    have ha := hl a (by simp)
    have hb := hl b (by simp)
    have hc := hl c (by simp)
    unfold ok32 at ha hb hc
    unfold reedpenref22_Whole.f whole
    simp [reedpenref22_Whole.j0, reedpenref22_Whole.j1, rd]
    rw [w64 (x := a) (by omega) (by omega), w64 (x := a - 4352) (by omega) (by omega), w64 (x := b) (by omega) (by omega), w64 (x := b - 4449) (by omega) (by omega), w64 (x := c) (by omega) (by omega), w64 (x := c - 4519) (by omega) (by omega)]
    repeat' split
    all_goals first
      | rfl
      | (exfalso; omega)
      | (rw [w64 (x := 588 * (a - 4352)) (by omega) (by omega), w64 (x := 44032 + 588 * (a - 4352)) (by omega) (by omega), w64 (x := 28 * (b - 4449)) (by omega) (by omega), w64 (x := 44032 + 588 * (a - 4352) + 28 * (b - 4449)) (by omega) (by omega), w64 (x := 44032 + 588 * (a - 4352) + 28 * (b - 4449) + (c - 4519)) (by omega) (by omega), w32 (by omega) (by omega)])
  | a :: b :: c :: d :: r, _ =>
    unfold reedpenref22_Whole.f whole
    rw [if_neg (by simp; omega), decide_eq_true (by simp; omega)]
    simp [reedpenref22_Whole.j0]
end Go.Proofs.YtloidjfcelbpmaaDoor
