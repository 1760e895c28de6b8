/- Syllables are the whole of their parts; what parts make has just these parts, and is one block with them; a block cut alone is one: plain laws. Conditions: the numbers are of their kind. -/
import Derived.Test.YtloidjfcelbpmaaDoorAlive
import Derived.OpenShut
namespace Go.Proofs.YtloidjfcelbpmaaDoor
open Go.RowKit Go.Proofs.YtloidjfcelbpmaaDoorW.PrintWords Go.Proofs.YtloidjfcelbpmaaDoorW.PrintLast Go.Proofs.YtloidjfcelbpmaaDoorW.PrintMore
open PHangulParts

theorem ok_of_wf {x : Int} (h : (Lit.int .i32 x).wf = true) : ok32 x := bounds_i32 h
theorem kind_lead {a : Int} (h1 : 4352 ≤ a) (h2 : a < 4371) : kind a = 1 := by
  unfold kind
  rw [if_neg (by omega), if_pos (by omega)]
theorem kind_vowel {a : Int} (h1 : 4449 ≤ a) (h2 : a < 4470) : kind a = 2 := by
  unfold kind
  rw [if_neg (by omega), if_neg (by omega), if_pos (by omega)]
theorem kind_tail {a : Int} (h1 : 4520 ≤ a) (h2 : a < 4547) : kind a = 3 := by
  unfold kind
  rw [if_neg (by omega), if_neg (by omega), if_neg (by omega), if_pos (by omega)]
theorem kind_four (c : Int) : 4 ≤ kind c ↔ (44032 ≤ c ∧ c ≤ 55203) := by
  unfold kind
  constructor
  · intro h
    by_cases hs : 44032 ≤ c ∧ c ≤ 55203
    · exact hs
    · rw [if_neg hs] at h
      exfalso
      revert h
      repeat' split
      all_goals omega
  · intro h
    rw [if_pos h]
    split <;> omega
theorem blk_one (x : Int) : blk [x] = 1 := by
  have h1 : kat [x] 1 = 0 := by simp [kat]
  unfold blk
  rw [if_neg (fun h => by rw [h1] at h; omega), if_neg (fun h => by rw [h1] at h; omega)]
theorem cut_all (l : List Int) (h0 : 0 < l.length) (hb : blk l = l.length) : cutFrom l 0 = [(0, (l.length : Int))] := by
  rw [cutFrom_step l 0 h0, List.drop_zero, hb, Nat.zero_add, cutFrom_end l _ (Nat.le_refl _)]
  rfl

/-- A syllable is the whole of its parts. -/
theorem whole_parts (c : Int) (h : 44032 ≤ c ∧ c ≤ 55203) : whole (parts c) = (c, true) ∧ ((parts c).length : Int) = kind c - 2 := by
  unfold parts kind
  rw [if_pos h, if_pos h]
  by_cases hm : (c - 44032) % 28 = 0
  · rw [if_pos hm, if_pos hm]
    refine ⟨?_, rfl⟩
    unfold whole
    simp only
    rw [if_pos (by omega)]
    congr 1
    omega
  · rw [if_neg hm, if_neg hm]
    refine ⟨?_, rfl⟩
    unfold whole
    simp only
    rw [if_pos (by omega)]
    congr 1
    omega
theorem parts_one (c : Int) (h : ¬ (44032 ≤ c ∧ c ≤ 55203)) : parts c = [c] := by
  unfold parts
  rw [if_neg h]
/-- What parts make. -/
theorem whole_back (l : List Int) (x : Int) (h : whole l = (x, true)) : parts x = l ∧ cutFrom l 0 = [(0, (l.length : Int))] ∧ kind x = (l.length : Int) + 2 ∧ ok32 x ∧ 0 < l.length ∧ l.length ≤ 3 := by
  match l, h with
  | [], h => simp [whole] at h
  | [a], h => simp [whole] at h
  | [a, b], h =>
    unfold whole at h
    simp only at h
    split at h
    · rename_i hc
      simp only [Prod.mk.injEq, and_true] at h
      subst h
      obtain ⟨h1, h2, h3, h4⟩ := hc
      refine ⟨?_, ?_, ?_, ?_, by simp, by simp⟩
      · unfold parts
        rw [if_pos (by omega), if_pos (by omega)]
        congr 1
        · omega
        · congr 1
          omega
      · apply cut_all _ (by simp)
        have k0 : kat [a, b] 0 = 1 := by simp [kat, rd]; exact kind_lead h1 h2
        have k1 : kat [a, b] 1 = 2 := by simp [kat, rd]; exact kind_vowel h3 h4
        have k2 : kat [a, b] 2 = 0 := by simp [kat]
        unfold blk
        rw [if_pos ⟨k0, k1⟩, if_neg (by rw [k2]; omega)]
        rfl
      · unfold kind
        rw [if_pos (by omega), if_pos (by omega)]
        rfl
      · unfold ok32; omega
    · simp at h
  | [a, b, c], h =>
    unfold whole at h
    simp only at h
    split at h
    · rename_i hc
      simp only [Prod.mk.injEq, and_true] at h
      subst h
      obtain ⟨h1, h2, h3, h4, h5, h6⟩ := hc
      refine ⟨?_, ?_, ?_, ?_, by simp, by simp⟩
      · unfold parts
        rw [if_pos (by omega), if_neg (by omega)]
        congr 1
        · omega
        · congr 1
          · omega
          · congr 1
            omega
      · apply cut_all _ (by simp)
        have k0 : kat [a, b, c] 0 = 1 := by simp [kat, rd]; exact kind_lead h1 h2
        have k1 : kat [a, b, c] 1 = 2 := by simp [kat, rd]; exact kind_vowel h3 h4
        have k2 : kat [a, b, c] 2 = 3 := by simp [kat, rd]; exact kind_tail h5 h6
        unfold blk
        rw [if_pos ⟨k0, k1⟩, if_pos k2]
        rfl
      · unfold kind
        rw [if_pos (by omega), if_neg (by omega)]
        rfl
      · unfold ok32; omega
    · simp at h
  | a :: b :: c :: d :: r, h => simp [whole] at h
theorem whole_false (l : List Int) (x : Int) (h : whole l = (x, false)) : x = 0 := by
  unfold whole at h
  split at h
  · split at h <;> simp at h
    exact h.symm
  · split at h <;> simp at h
    exact h.symm
  · simp at h
    exact h.symm

/-- A block cut alone is one. -/
theorem kat_take (m : List Int) (n i : Nat) (hn : n ≤ m.length) : kat (m.take n) i = if i < n then kat m i else 0 := by
  unfold kat
  rw [List.length_take, Nat.min_eq_left hn]
  by_cases h : i < n
  · rw [if_pos h, if_pos h, if_pos (by omega)]
    simp only [rd, Int.toNat_natCast, List.getD_eq_getElem?_getD]
    rw [List.getElem?_take, if_pos h]
  · rw [if_neg h, if_neg h]
theorem blk_take (m : List Int) (h : 0 < m.length) : blk (m.take (blk m)) = blk m := by
  have hb := blk_le m h
  have e := fun i => kat_take m (blk m) i hb.2.2
  obtain ⟨n, hn⟩ : ∃ n, n = blk m := ⟨_, rfl⟩
  rw [← hn] at hb e ⊢
  unfold blk at hn ⊢
  have e0 := e 0
  have e1 := e 1
  have e2 := e 2
  by_cases h1 : kat m 0 = 1 ∧ kat m 1 = 2
  · rw [if_pos h1] at hn
    by_cases h2 : kat m 2 = 3
    · rw [if_pos h2] at hn
      subst hn
      rw [if_pos (by decide)] at e0 e1 e2
      rw [e0, e1, e2, if_pos h1, if_pos h2]
    · rw [if_neg h2] at hn
      subst hn
      rw [if_pos (by decide)] at e0 e1
      rw [if_neg (by decide)] at e2
      rw [e0, e1, e2, if_pos h1, if_neg (by decide)]
  · rw [if_neg h1] at hn
    by_cases h2 : kat m 0 = 4 ∧ kat m 1 = 3
    · rw [if_pos h2] at hn
      subst hn
      rw [if_pos (by decide)] at e0 e1
      rw [e0, e1, if_neg h1, if_pos h2]
    · rw [if_neg h2] at hn
      subst hn
      rw [if_pos (by decide)] at e0
      rw [if_neg (by decide)] at e1
      rw [e0, e1, if_neg (fun h => by omega), if_neg (fun h => by omega)]
theorem block_alone (l : List Int) (a b : Nat) (ha : a < l.length) (hb : b = a + blk (l.drop a)) : cutFrom ((l.drop a).take (b - a)) 0 = [(0, ((b - a : Nat) : Int))] := by
  have h1 := blk_drop l a ha
  have hl : ((l.drop a).take (b - a)).length = b - a := by rw [List.length_take, List.length_drop]; omega
  have e : b - a = blk (l.drop a) := by omega
  have hc := cut_all ((l.drop a).take (b - a)) (by omega) (by rw [hl, e]; exact blk_take _ (by rw [List.length_drop]; omega))
  rw [hl] at hc
  exact hc

/-- Blocks, one behind the other. -/
def Chain (l : List Int) : Nat → List (Int × Int) → Nat → Prop
  | a, [], b => a = b
  | a, p :: r, b => ∃ c : Nat, p = ((a : Int), (c : Int)) ∧ a < c ∧ c ≤ l.length ∧ c ≤ a + 3 ∧ c = a + blk (l.drop a) ∧ Chain l c r b
theorem cut_chain (l : List Int) (d : Nat) : ∀ p : Nat, p + d = l.length → Chain l p (cutFrom l p) l.length := by
  induction d using Nat.strongRecOn with
  | ind d ih =>
    intro p hp
    by_cases h : p < l.length
    · have hb := blk_drop l p h
      rw [cutFrom_step l p h]
      exact ⟨_, rfl, by omega, by omega, by omega, rfl, ih (l.length - (p + blk (l.drop p))) (by omega) _ (by omega)⟩
    · rw [cutFrom_end l p (by omega)]
      show p = l.length
      omega
end Go.Proofs.YtloidjfcelbpmaaDoor
