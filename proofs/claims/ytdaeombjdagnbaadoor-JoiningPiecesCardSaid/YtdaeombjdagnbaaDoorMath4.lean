/- Letters have the forms that they have in their pieces alone: plain laws over lists. No condition. -/
import Derived.Test.YtdaeombjdagnbaaDoorMath2
import Derived.Test.YtdaeombjdagnbaaDoorCuts2
namespace Go.Proofs.YtdaeombjdagnbaaDoor.Math
open Go.RowKit Go.Proofs.YtdaeombjdagnbaaDoorW.PrintWords Go.Proofs.YtdaeombjdagnbaaDoorW.PrintLast Go.Proofs.YtdaeombjdagnbaaDoorW.PrintMore
open PJoiningForms

theorem nb_app (v : List Int) : ∀ u : List Int, nb (u ++ v) = if (∀ x ∈ u, x = 5) then nb v else nb u
  | [] => by simp
  | x :: r => by
    have ih := nb_app v r
    by_cases h : x = 5
    · subst h
      simp only [List.cons_append, nb, if_true, ih]
      by_cases h' : ∀ y ∈ r, y = 5
      · rw [if_pos h', if_pos (by simpa using h')]
      · rw [if_neg h', if_neg (by simpa using h')]
    · rw [if_neg (fun hh => h (hh x (by simp)))]
      simp [nb, h]
theorem nb_all (u : List Int) (h : ∀ x ∈ u, x = 5) : nb u = 0 := by
  have := nb_app [] u
  rw [List.append_nil, if_pos h] at this
  exact this

/-- A place at which a piece may begin. -/
def isCut (l : List Int) (a : Nat) : Prop := a = 0 ∨ (a < l.length ∧ rd l (a : Int) ≠ 5 ∧ jn (lf l a) (rd l (a : Int)) = false)
def endOk (l : List Int) (b : Nat) : Prop := b = l.length ∨ isCut l b

theorem fm_same (k a b a' b' : Int) (h : k = 1 ∨ k = 2 ∨ k = 3 → jn a k = jn a' k ∧ jn k b = jn k b') : fm k a b = fm k a' b' := by
  unfold fm
  by_cases hk : k = 1 ∨ k = 2 ∨ k = 3
  · rw [if_pos hk, if_pos hk, (h hk).1, (h hk).2]
  · rw [if_neg hk, if_neg hk]

theorem left_same (l : List Int) (a p : Nat) (ha : isCut l a) (hap : a ≤ p) (hp : p < l.length) : jn (nb ((l.drop a).take (p - a)).reverse) (rd l (p : Int)) = jn (lf l p) (rd l (p : Int)) := by
  have e : l.take p = l.take a ++ (l.drop a).take (p - a) := by
    rw [← List.take_add, show a + (p - a) = p by omega]
  unfold lf
  rw [e, List.reverse_append, nb_app]
  by_cases h : ∀ x ∈ ((l.drop a).take (p - a)).reverse, x = 5
  · rw [if_pos h, nb_all _ h, jn_zero_left]
    rcases ha with rfl | ⟨h1, h2, h3⟩
    · simp [nb, jn_zero_left]
    · by_cases hlt : a < p
      · refine absurd (h (rd l (a : Int)) ?_) h2
        rw [rd_drop l a h1, show p - a = (p - a - 1) + 1 by omega, List.take_succ_cons]
        simp
      · obtain rfl : a = p := by omega
        exact h3.symm
  · rw [if_neg h]

theorem right_same (l : List Int) (b p : Nat) (hb : endOk l b) (hpb : p < b) (hbl : b ≤ l.length) (h5 : rd l (p : Int) ≠ 5) : jn (rd l (p : Int)) (nb ((l.drop (p + 1)).take (b - (p + 1)))) = jn (rd l (p : Int)) (rg l p) := by
  have e : l.drop (p + 1) = (l.drop (p + 1)).take (b - (p + 1)) ++ l.drop b := by
    conv => lhs; rw [← List.take_append_drop (b - (p + 1)) (l.drop (p + 1))]
    rw [List.drop_drop, show p + 1 + (b - (p + 1)) = b by omega]
  unfold rg
  conv => rhs; rw [e, nb_app]
  by_cases h : ∀ x ∈ (l.drop (p + 1)).take (b - (p + 1)), x = 5
  · rw [if_pos h, nb_all _ h, jn_zero_right]
    rcases hb with rfl | hb
    · rw [List.drop_length]
      simp [nb, jn_zero_right]
    · rcases hb with rfl | ⟨h1, h2, h3⟩
      · omega
      · rw [rd_drop l b h1]
        simp only [nb, if_neg h2]
        have e2 : l.take b = l.take (p + 1) ++ (l.drop (p + 1)).take (b - (p + 1)) := by
          rw [← List.take_add, show p + 1 + (b - (p + 1)) = b by omega]
        have hl : lf l b = rd l (p : Int) := by
          unfold lf
          rw [e2, List.reverse_append, nb_app, if_pos (fun x hx => h x (List.mem_reverse.1 hx)), rd_take l p (by omega)]
          simp only [nb, if_neg h5]
        rw [hl] at h3
        exact h3.symm
  · rw [if_neg h]

theorem piece_forms (l : List Int) (a b : Nat) (ha : isCut l a) (hab : a < b) (hbl : b ≤ l.length) (hb : endOk l b) : forms ((l.drop a).take (b - a)) = ((forms l).drop a).take (b - a) := by
  apply List.ext_getElem
  · simp [forms_length]
  · intro i h1 h2
    have hi : i < b - a := by simp [forms_length] at h1; omega
    simp only [forms, List.getElem_map, List.getElem_range, List.getElem_take, List.getElem_drop]
    have hrd : rd ((l.drop a).take (b - a)) (i : Int) = rd l ((a + i : Nat) : Int) := by
      simp only [rd, Int.toNat_natCast, List.getD_eq_getElem?_getD]
      rw [List.getElem?_take, if_pos hi, List.getElem?_drop]
    unfold form
    rw [hrd]
    refine fm_same _ _ _ _ _ (fun hk => ⟨?_, ?_⟩)
    · have := left_same l a (a + i) ha (by omega) (by omega)
      rw [← this]
      unfold lf
      rw [List.take_take, show a + i - a = i by omega, Nat.min_eq_left (by omega)]
    · have := right_same l b (a + i) hb (by omega) hbl (by omega)
      rw [← this]
      unfold rg
      rw [List.drop_take, List.drop_drop, show a + (i + 1) = a + i + 1 by omega, show b - a - (i + 1) = b - (a + i + 1) by omega]

/-- Pieces, one behind the other. -/
def Chain (l : List Int) : Nat → List (Int × Int) → Nat → Prop
  | a, [], b => a = b
  | a, p :: r, b => ∃ c : Nat, p = ((a : Int), (c : Int)) ∧ a < c ∧ c ≤ l.length ∧ endOk l c ∧ Chain l c r b
theorem Chain.snoc (l : List Int) : ∀ (out : List (Int × Int)) (a b c : Nat), Chain l a out b → b < c → c ≤ l.length → endOk l c → Chain l a (out ++ [((b : Int), (c : Int))]) c
  | [], a, b, c, h, h1, h2, h3 => by
    have : a = b := h
    subst this
    exact ⟨c, rfl, h1, h2, h3, rfl⟩
  | p :: r, a, b, c, h, h1, h2, h3 => by
    obtain ⟨d, h4, h5, h6, h7, h8⟩ := h
    exact ⟨d, h4, h5, h6, h7, Chain.snoc l r d b c h8 h1 h2 h3⟩
theorem cst_chain (l : List Int) (m : Nat) (hm : m ≤ l.length) : ∃ f : Nat, (cst l m).1 = f ∧ Chain l 0 (cst l m).2 f := by
  induction m with
  | zero => exact ⟨0, rfl, rfl⟩
  | succ m ih =>
    obtain ⟨f, h1, h2⟩ := ih (by omega)
    unfold cst
    by_cases h : rd l (m : Int) ≠ 5 ∧ jn (lf l m) (rd l (m : Int)) = false ∧ (cst l m).1 < m
    · rw [if_pos h]
      refine ⟨m, rfl, ?_⟩
      rw [h1]
      exact Chain.snoc l _ _ _ _ h2 (by omega) (by omega) (.inr (.inr ⟨by omega, h.1, h.2.1⟩))
    · rw [if_neg h]
      exact ⟨f, h1, h2⟩
theorem cuts_chain (l : List Int) : Chain l 0 (cuts l) l.length := by
  obtain ⟨f, h1, h2⟩ := cst_chain l l.length (Nat.le_refl _)
  have hle := (cst_le l l.length).2.1
  unfold cuts
  by_cases h : (cst l l.length).1 < l.length
  · rw [if_pos h, h1]
    exact Chain.snoc l _ _ _ _ h2 (by omega) (Nat.le_refl _) (.inl rfl)
  · rw [if_neg h]
    obtain rfl : f = l.length := by omega
    exact h2
end Go.Proofs.YtdaeombjdagnbaaDoor.Math
