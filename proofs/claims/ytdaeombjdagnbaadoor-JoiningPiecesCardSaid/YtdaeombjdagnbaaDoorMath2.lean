/- The reference's forms are the program's: plain laws over lists of integers. No condition but the list's length. -/
import Derived.Test.YtdaeombjdagnbaaDoorMath
namespace Go.Proofs.YtdaeombjdagnbaaDoor.Math
open Go.RowKit Go.Proofs.YtdaeombjdagnbaaDoorW.PrintWords Go.Proofs.YtdaeombjdagnbaaDoorW.PrintLast Go.Proofs.YtdaeombjdagnbaaDoorW.PrintMore
open PJoiningForms

theorem wS (n : Nat) (h : n ≤ 17592186044416) : wrap64 ((n : Int) + 1) = ((n + 1 : Nat) : Int) := by rw [w64 (by omega) (by omega)]; omega
theorem wP (n : Nat) (h0 : n ≠ 0) (h : n ≤ 17592186044416) : wrap64 ((n : Int) - 1) = ((n - 1 : Nat) : Int) := by rw [w64 (by omega) (by omega)]; omega
theorem rd_snoc (s : List Int) (x : Int) : rd (s ++ [x]) (s.length : Int) = x := by simp [rd, List.getD]
theorem rd_app (s t : List Int) (j : Int) (h : j.toNat < s.length) : rd (s ++ t) j = rd s j := by
  simp [rd, List.getD, List.getElem?_append_left h]
theorem seen_le (l : List Int) (p d : Nat) : ∃ t, seen l (p + d) = seen l p ++ t := by
  induction d with
  | zero => exact ⟨[], by simp⟩
  | succ d ih =>
    obtain ⟨t, ht⟩ := ih
    rw [← Nat.add_assoc, seen_succ]
    by_cases h : rd l ((p + d : Nat) : Int) = 5
    · rw [if_pos h]; exact ⟨t, ht⟩
    · rw [if_neg h, ht, List.append_assoc]; exact ⟨_, rfl⟩
theorem seen_at (l : List Int) (n p : Nat) (hp : p < n) (h : rd l (p : Int) ≠ 5) : (seen l p).length < (seen l n).length ∧ rd (seen l n) ((seen l p).length : Int) = p := by
  obtain ⟨t, ht⟩ := seen_le l (p + 1) (n - (p + 1))
  rw [show p + 1 + (n - (p + 1)) = n by omega, seen_succ, if_neg h] at ht
  refine ⟨by rw [ht]; simp, ?_⟩
  rw [ht, rd_app _ _ _ (by simp), rd_snoc]
theorem lf_succ (l : List Int) (p : Nat) (hp : p < l.length) : lf l (p + 1) = if rd l (p : Int) = 5 then lf l p else rd l (p : Int) := by
  unfold lf
  rw [rd_take l p hp]
  simp [nb]
theorem lf_seen (l : List Int) (p : Nat) (hp : p ≤ l.length) : lf l p = if (seen l p).length = 0 then 0 else rd l (rd (seen l p) (((seen l p).length : Int) - 1)) := by
  induction p with
  | zero => simp [lf, seen, nb]
  | succ p ih =>
    rw [lf_succ l p (by omega), seen_succ]
    by_cases h : rd l (p : Int) = 5
    · rw [if_pos h, if_pos h, ih (by omega)]
    · rw [if_neg h, if_neg h, if_neg (by simp), List.length_append, List.length_singleton, show (((seen l p).length + 1 : Nat) : Int) - 1 = ((seen l p).length : Int) by omega, rd_snoc]
theorem rg_seen (l : List Int) (d : Nat) : ∀ p : Nat, l.length = p + d → nb (l.drop p) = if (seen l p).length < (seen l l.length).length then rd l (rd (seen l l.length) ((seen l p).length : Int)) else 0 := by
  induction d with
  | zero =>
    intro p hp
    rw [List.drop_eq_nil_of_le (by omega), show p = l.length by omega, if_neg (by omega)]
    rfl
  | succ d ih =>
    intro p hp
    rw [rd_drop l p (by omega)]
    have hs := ih (p + 1) (by omega)
    rw [seen_succ] at hs
    by_cases h : rd l (p : Int) = 5
    · rw [if_pos h] at hs
      rw [← hs]
      simp [nb, h]
    · obtain ⟨h1, h2⟩ := seen_at l l.length p (by omega) h
      rw [if_pos h1, h2]
      simp [nb, h]

theorem seen_mem (l : List Int) (n j : Nat) (h : j < (seen l n).length) : 0 ≤ rd (seen l n) (j : Int) ∧ rd (seen l n) (j : Int) < n := by
  have hm : rd (seen l n) (j : Int) ∈ seen l n := by simp [rd, List.getD, h]
  generalize rd (seen l n) (j : Int) = x at hm
  unfold seen at hm
  simp only [List.mem_map, List.mem_filter, List.mem_range] at hm
  obtain ⟨a, ⟨ha, _⟩, rfl⟩ := hm
  omega

def mix (l : List Int) (p : Nat) : List Int := (List.range l.length).map fun q => if q < p then form l q else 0
theorem mix_length (l : List Int) (p : Nat) : (mix l p).length = l.length := by simp [mix]
theorem mix_zero (l : List Int) : mix l 0 = List.replicate l.length 0 := by
  apply List.ext_getElem
  · simp [mix]
  · intro i h1 h2; simp [mix]
theorem mix_all (l : List Int) : mix l l.length = forms l := by
  unfold mix forms
  apply List.map_congr_left
  intro q hq
  rw [if_pos (by simpa using hq)]
theorem mix_set (l : List Int) (p : Nat) (x : Int) (hx : form l p = x) : (mix l p).set p x = mix l (p + 1) := by
  subst hx
  apply List.ext_getElem
  · simp [mix]
  · intro i h1 h2
    rw [List.getElem_set]
    simp only [mix, List.getElem_map, List.getElem_range]
    by_cases h : p = i
    · subst h; simp
    · rw [if_neg h]
      by_cases h' : i < p
      · rw [if_pos h', if_pos (by omega)]
      · rw [if_neg h', if_neg (by omega)]
theorem mix_zero_form (l : List Int) (p : Nat) (h : form l p = 0) : mix l (p + 1) = mix l p := by
  unfold mix
  apply List.map_congr_left
  intro q hq
  by_cases e : q = p
  · subst e; simp [h]
  · by_cases h' : q < p
    · rw [if_pos h', if_pos (by omega)]
    · rw [if_neg h', if_neg (by omega)]

theorem jn_zero_left (b : Int) : jn 0 b = false := by simp [jn]
theorem jn_zero_right (a : Int) : jn a 0 = false := by simp [jn]

theorem lf_none (l : List Int) (p : Nat) (hp : p ≤ l.length) (h0 : (seen l p).length = 0) : lf l p = 0 := by rw [lf_seen l p hp, if_pos h0]
theorem prev_seen (l : List Int) (p : Nat) (hp : p ≤ l.length) (h0 : (seen l p).length ≠ 0) :
    0 ≤ rd (seen l l.length) (((seen l p).length - 1 : Nat) : Int) ∧ rd (seen l l.length) (((seen l p).length - 1 : Nat) : Int) < l.length ∧ rd l (rd (seen l l.length) (((seen l p).length - 1 : Nat) : Int)) = lf l p := by
  obtain ⟨t, ht⟩ := seen_le l p (l.length - p)
  have e : p + (l.length - p) = l.length := by omega
  rw [e] at ht
  have hlt : (seen l p).length - 1 < (seen l l.length).length := by rw [ht, List.length_append]; omega
  obtain ⟨h1, h2⟩ := seen_mem l l.length _ hlt
  have e2 : (((seen l p).length - 1 : Nat) : Int) = ((seen l p).length : Int) - 1 := by omega
  refine ⟨h1, h2, ?_⟩
  rw [lf_seen l p hp, if_neg h0, ht, rd_app _ _ _ (by rw [Int.toNat_natCast]; omega), e2]

/-- The reference's rounds. -/
theorem ref_forms_l0 (l : List Int) (hl : l.length ≤ 17592186044416) (d : Nat) : ∀ (k p : Nat), l.length = p + d → 5 * d + 5 ≤ k →
    reedpenref23_Forms.l0 k l (mix l p) (seen l l.length) ((seen l p).length : Int) = some (forms l) := by
  induction d with
  | zero =>
    intro k p hp hk
    obtain ⟨k, rfl⟩ : ∃ m, k = m + 1 := ⟨k - 1, by omega⟩
    simp only [reedpenref23_Forms.l0]
    rw [show p = l.length by omega, if_neg (by omega), mix_all]
  | succ d ih =>
    intro k p hp hk
    by_cases h5 : rd l (p : Int) = 5
    · have := ih k (p + 1) (by omega) (by omega)
      rw [seen_succ, if_pos h5, mix_zero_form l p (by unfold form fm; rw [h5]; rfl)] at this
      exact this
    · obtain ⟨k, rfl⟩ : ∃ m, k = m + 5 := ⟨k - 5, by omega⟩
      obtain ⟨h1, h2⟩ := seen_at l l.length p (by omega) h5
      have hsl := seen_length l l.length
      have hnext := ih (k) (p + 1) (by omega) (by omega)
      have hnext' := fun e (he : k ≤ e) => at_rounds (fun k => (reedpenref23_Forms.mono_l k).1 l (mix l (p + 1)) (seen l l.length) ((seen l (p + 1)).length : Int)) he hnext
      rw [seen_succ, if_neg h5, List.length_append, List.length_singleton] at hnext'
      have hml := mix_length l p
      simp only [reedpenref23_Forms.l0]
      rw [if_pos (by omega), if_pos (by omega), h2, if_pos (by omega), if_pos (by omega)]
      -- is there a form at all?
      by_cases hno : rd l (p : Int) < 1 ∨ rd l (p : Int) > 3
      · have hz : form l p = 0 := by unfold form fm; rw [if_neg (by omega)]
        have hj : reedpenref23_Forms.j1 (k + 4) l (mix l p) (seen l l.length) ((seen l p).length : Int) (rd l (p : Int)) true = some (forms l) := by
          simp only [reedpenref23_Forms.j1]
          rw [if_pos trivial, wS _ (by omega), ← mix_zero_form l p hz]
          exact hnext' _ (by omega)
        by_cases hlt : rd l (p : Int) < 1
        · rw [if_pos hlt]; exact hj
        · rw [if_neg hlt, decide_eq_true (by omega)]; exact hj
      · rw [if_neg (by omega), decide_eq_false (by omega)]
        have hform : form l p = if jn (lf l p) (rd l p) = true then (if jn (rd l p) (rg l p) = true then 3 else 2) else (if jn (rd l p) (rg l p) = true then 4 else 1) := by
          unfold form fm; rw [if_pos (by omega)]
        have hj2 : reedpenref23_Forms.j2 (k + 3) l (mix l p) (seen l l.length) ((seen l p).length : Int) (rd l (p : Int)) (jn (lf l p) (rd l p)) = some (forms l) := by
          have hr := rg_seen l d (p + 1) (by omega)
          rw [seen_succ, if_neg h5, List.length_append, List.length_singleton] at hr
          have hj3 : reedpenref23_Forms.j3 (k + 2) l (mix l p) (seen l l.length) ((seen l p).length : Int) (jn (lf l p) (rd l p)) (jn (rd l p) (rg l p)) = some (forms l) := by
            have hset := fun x hx => mix_set l p x hx
            simp only [reedpenref23_Forms.j3, reedpenref23_Forms.j4]
            rw [h2, hml, wS _ (by omega)]
            simp only [Int.toNat_natCast]
            revert hform
            cases jn (lf l p) (rd l p) <;> cases jn (rd l p) (rg l p) <;> intro hform
            · rw [if_neg (by simp), if_neg (by simp), if_neg (by simp), if_neg (by simp), if_pos (by omega), if_pos (by omega), if_pos (by omega), if_pos (by omega), hset _ (by simpa using hform)]
              exact hnext' _ (by omega)
            · rw [if_neg (by simp), if_neg (by simp), if_neg (by simp), if_pos rfl, if_pos (by omega), if_pos (by omega), if_pos (by omega), if_pos (by omega), hset _ (by simpa using hform)]
              exact hnext' _ (by omega)
            · rw [if_pos rfl, if_neg (by simp), if_pos rfl, if_pos (by omega), if_pos (by omega), if_pos (by omega), if_pos (by omega), hset _ (by simpa using hform)]
              exact hnext' _ (by omega)
            · rw [if_pos rfl, if_pos rfl, if_pos (by omega), if_pos (by omega), if_pos (by omega), if_pos (by omega), hset _ (by simpa using hform)]
              exact hnext' _ (by omega)
          simp only [reedpenref23_Forms.j2]
          rw [wS _ (by omega)]
          by_cases hm : (seen l p).length + 1 < (seen l l.length).length
          · rw [if_pos (by omega), if_pos (by omega)]
            rw [if_pos hm] at hr
            have hin : rd l (rd (seen l l.length) (((seen l p).length + 1 : Nat) : Int)) = rg l p := hr.symm
            have hb := seen_mem l l.length ((seen l p).length + 1) hm
            rw [if_pos hb.1, if_pos hb.2, hin, ref_joins_f, Option.bind_some]
            exact hj3
          · rw [if_neg (by omega)]
            rw [if_neg hm] at hr
            have : rg l p = 0 := hr
            rw [this, jn_zero_right] at hj3
            exact hj3
        simp only [reedpenref23_Forms.j1]
        rw [if_neg (by simp)]
        by_cases h0 : (seen l p).length = 0
        · rw [lf_none l p (by omega) h0, jn_zero_left] at hj2
          rw [if_neg (by omega)]
          exact hj2
        · obtain ⟨hb1, hb2, hin⟩ := prev_seen l p (by omega) h0
          rw [if_pos (by omega), wP _ h0 (by omega), if_pos (by omega), if_pos (by omega), if_pos hb1, if_pos hb2, hin, ref_joins_f, Option.bind_some]
          exact hj2
theorem ref_forms_f (l : List Int) (hl : l.length ≤ 17592186044416) (k : Nat) (hk : 5 * l.length + 5 ≤ k) : reedpenref23_Forms.f k l = some (forms l) := by
  unfold reedpenref23_Forms.f
  rw [if_pos (by omega), Int.toNat_natCast, if_pos (by omega), seen_f l hl k (by omega)]
  simp only [Option.bind_some]
  rw [← mix_zero]
  exact ref_forms_l0 l hl l.length k 0 (by omega) hk
end Go.Proofs.YtdaeombjdagnbaaDoor.Math
