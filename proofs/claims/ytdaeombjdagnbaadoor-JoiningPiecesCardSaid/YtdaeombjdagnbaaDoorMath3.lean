/- A list turned about, 1 and 3 changed, has its forms from behind, 2 and 4 changed; who joins the one behind is joined by it: plain laws. No condition. -/
import Derived.Test.YtdaeombjdagnbaaDoorMath2
namespace Go.Proofs.YtdaeombjdagnbaaDoor.Math
open Go.RowKit Go.Proofs.YtdaeombjdagnbaaDoorW.PrintWords Go.Proofs.YtdaeombjdagnbaaDoorW.PrintLast Go.Proofs.YtdaeombjdagnbaaDoorW.PrintMore
open PJoiningForms

def sw (k : Int) : Int := if k = 1 then 3 else if k = 3 then 1 else k
def turn (k : Int) : Int := if k = 2 then 4 else if k = 4 then 2 else k
def back (l : List Int) : List Int := l.reverse.map sw
theorem back_length (l : List Int) : (back l).length = l.length := by simp [back]
theorem sw_five (k : Int) : sw k = 5 ↔ k = 5 := by unfold sw; split <;> (try split) <;> omega
theorem nb_sw (l : List Int) : nb (l.map sw) = sw (nb l) := by
  induction l with
  | nil => rfl
  | cons x r ih =>
    simp only [List.map_cons, nb]
    by_cases h : x = 5
    · rw [if_pos h, if_pos ((sw_five x).2 h), ih]
    · rw [if_neg h, if_neg (fun e => h ((sw_five x).1 e))]
theorem jn_sw (a b : Int) : jn (sw a) (sw b) = jn b a := by
  unfold jn
  apply decide_eq_decide.2
  unfold sw
  split <;> split <;> (try split) <;> (try split) <;> omega
theorem fm_range (k a b : Int) : fm k a b = 0 ∨ fm k a b = 1 ∨ fm k a b = 2 ∨ fm k a b = 3 ∨ fm k a b = 4 := by
  unfold fm
  split
  · split <;> split <;> simp
  · simp
theorem fm_sw (k a b : Int) : fm (sw k) (sw a) (sw b) = turn (fm k b a) := by
  unfold fm
  rw [jn_sw, jn_sw]
  by_cases h : k = 1 ∨ k = 2 ∨ k = 3
  · rw [if_pos h, if_pos (by unfold sw; split <;> (try split) <;> omega)]
    cases jn k a <;> cases jn b k <;> rfl
  · rw [if_neg h, if_neg (by unfold sw; split <;> (try split) <;> omega)]
    rfl
theorem rd_back (l : List Int) (i : Nat) (h : i < l.length) : rd (back l) ((l.length - 1 - i : Nat) : Int) = sw (rd l (i : Int)) := by
  have h1 : l.length - 1 - i < (back l).length := by rw [back_length]; omega
  simp only [rd, Int.toNat_natCast, List.getD_eq_getElem?_getD]
  rw [List.getElem?_eq_getElem h1, List.getElem?_eq_getElem h]
  simp only [back, List.getElem_map, List.getElem_reverse, Option.getD_some]
  congr 2
  omega
theorem form_back (l : List Int) (i : Nat) (h : i < l.length) : form (back l) (l.length - 1 - i) = turn (form l i) := by
  unfold form
  rw [rd_back l i h]
  have h1 : lf (back l) (l.length - 1 - i) = sw (rg l i) := by
    unfold lf rg back
    rw [← List.map_take, ← List.map_reverse, nb_sw, List.take_reverse, List.reverse_reverse]
    congr 3
    omega
  have h2 : rg (back l) (l.length - 1 - i) = sw (lf l i) := by
    unfold lf rg back
    rw [← List.map_drop, nb_sw, List.drop_reverse]
    congr 4
    omega
  rw [h1, h2, fm_sw]
theorem back_take (l : List Int) (k : Nat) (h : k < l.length) : (back l).take (k + 1) = (back l).take k ++ [sw (rd l ((l.length - 1 - k : Nat) : Int))] := by
  have h1 : k < (back l).length := by rw [back_length]; exact h
  rw [List.take_succ_eq_append_getElem h1]
  congr 2
  have h2 : l.length - 1 - k < l.length := by omega
  simp only [rd, Int.toNat_natCast, List.getD_eq_getElem?_getD]
  rw [List.getElem?_eq_getElem h2]
  simp [back]

/-- The last place ahead that isn't passed over. -/
def lastp (l : List Int) : Nat → Int
  | 0 => -1
  | m + 1 => if rd l (m : Int) = 5 then lastp l m else (m : Int)
theorem lastp_bound (l : List Int) (m : Nat) : -1 ≤ lastp l m ∧ lastp l m < m := by
  induction m with
  | zero => simp [lastp]
  | succ m ih => unfold lastp; split <;> omega
/-- What joins the one behind is joined by it. -/
theorem lastp_right (l : List Int) (q : Nat) (d : Nat) : ∀ m, m = q + 1 + d → m ≤ l.length → lastp l m = (q : Int) → rg l q = nb (l.drop m) := by
  induction d with
  | zero => intro m hm _ _; subst hm; rfl
  | succ d ih =>
    intro m hm hml hq
    obtain ⟨m', rfl⟩ : ∃ m', m = m' + 1 := ⟨m - 1, by omega⟩
    unfold lastp at hq
    by_cases h : rd l (m' : Int) = 5
    · rw [if_pos h] at hq
      rw [ih m' (by omega) (by omega) hq, rd_drop l m' (by omega)]
      simp [nb, h]
    · rw [if_neg h] at hq
      omega
theorem lastp_left (l : List Int) (m : Nat) (hm : m ≤ l.length) (q : Nat) (hq : lastp l m = (q : Int)) : lf l m = rd l (q : Int) := by
  induction m with
  | zero => simp [lastp] at hq
  | succ m ih =>
    unfold lastp at hq
    have e : lf l (m + 1) = if rd l (m : Int) = 5 then lf l m else rd l (m : Int) := by
      unfold lf
      rw [rd_take l m (by omega)]
      simp [nb]
    rw [e]
    by_cases h : rd l (m : Int) = 5
    · rw [if_pos h] at hq ⊢
      exact ih (by omega) hq
    · rw [if_neg h] at hq ⊢
      obtain rfl : m = q := by omega
      rfl
theorem form_three (l : List Int) (q : Nat) (h : form l q = 3 ∨ form l q = 4) : jn (rd l q) (rg l q) = true := by
  unfold form fm at h
  split at h
  · split at h <;> split at h <;> first | assumption | (exfalso; omega)
  · omega
theorem joined (l : List Int) (m q : Nat) (hm : m < l.length) (h5 : rd l (m : Int) ≠ 5) (hq : lastp l m = (q : Int)) (h : form l q = 3 ∨ form l q = 4) : form l m = 2 ∨ form l m = 3 ∨ rd l (m : Int) = 4 := by
  have h1 := form_three l q h
  have hb := lastp_bound l m
  rw [lastp_right l q (m - (q + 1)) m (by omega) (by omega) hq, rd_drop l m hm] at h1
  simp only [nb, if_neg h5] at h1
  have h2 := lastp_left l m (by omega) q hq
  by_cases h4 : rd l (m : Int) = 4
  · exact .inr (.inr h4)
  · unfold form fm
    rw [h2, h1]
    simp only [jn, decide_eq_true_eq] at h1
    rw [if_pos (by omega), if_pos rfl]
    split <;> simp
theorem last_form (l : List Int) (q : Nat) (hq : lastp l l.length = (q : Int)) : form l q ≠ 3 ∧ form l q ≠ 4 := by
  have key : ¬ (form l q = 3 ∨ form l q = 4) := fun h => by
    have h1 := form_three l q h
    have hb := lastp_bound l l.length
    rw [lastp_right l q (l.length - (q + 1)) l.length (by omega) (by omega) hq, List.drop_length] at h1
    simp [nb, jn] at h1
  omega
end Go.Proofs.YtdaeombjdagnbaaDoor.Math
