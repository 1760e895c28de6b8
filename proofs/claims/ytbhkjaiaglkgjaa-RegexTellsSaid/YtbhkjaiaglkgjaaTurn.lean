/- The turned expression, in plain Lean: its words are those from behind; turned twice it is the same; nodes, depth, the empty word are as they were. -/
import Derived.Test.YtbhkjaiaglkgjaaLang
namespace Go.Proofs.Ytbhkjaiaglkgjaa
open Go.RowKit PRegexTells

theorem tur0 (n : Nat) (x : S25) : (turN (n + 1) x).f0 = x.f0 := rfl
theorem tur1 (n : Nat) (x : S25) : (turN (n + 1) x).f1 = x.f1 := rfl
theorem tur2 (n : Nat) (x : S25) : (turN (n + 1) x).f2 = if x.f0 = 2 then (x.f2.map (turN n)).reverse else x.f2.map (turN n) := rfl
theorem tur_mem (n : Nat) (x y : S25) : y ∈ (turN (n + 1) x).f2 ↔ ∃ k ∈ x.f2, turN n k = y := by
  rw [tur2]; split <;> simp
theorem tur_len (n : Nat) (x : S25) : (turN (n + 1) x).f2.length = x.f2.length := by
  rw [tur2]; split <;> simp
theorem turN_turN (n : Nat) : ∀ x, turN n (turN n x) = x := by
  induction n with
  | zero => intro x; rfl
  | succ n ih =>
    intro x
    have e : (fun k => turN n (turN n k)) = id := funext ih
    have e2 : (turN n ∘ turN n) = id := funext ih
    show (⟨x.f0, x.f1, if x.f0 = 2 then (((turN (n + 1) x).f2).map (turN n)).reverse else ((turN (n + 1) x).f2).map (turN n)⟩ : S25) = x
    rw [tur2]
    by_cases h : x.f0 = 2
    · rw [if_pos h, if_pos h, List.map_reverse, List.reverse_reverse, List.map_map, e2, List.map_id, eta25]
    · rw [if_neg h, if_neg h, List.map_map, e2, List.map_id, eta25]
theorem tur_sm (n : Nat) : ∀ x, Sm n x → Sm n (turN n x) := by
  induction n with
  | zero => intro x h; exact h
  | succ n ih =>
    intro x h
    refine ⟨by rw [tur_len]; exact h.1, fun y hy => ?_⟩
    obtain ⟨k, hk, rfl⟩ := (tur_mem n x y).1 hy
    exact ih k (h.2 k hk)
theorem sum_rev (l : List Nat) : sumL l.reverse = sumL l := by
  have app : ∀ (a b : List Nat), sumL (a ++ b) = sumL a + sumL b := by
    intro a b
    induction a with
    | nil => simp [sumL]
    | cons x r ih => simp only [List.cons_append, sumL, ih]; omega
  induction l with
  | nil => rfl
  | cons x r ih => rw [List.reverse_cons, app, ih]; simp [sumL]; omega
theorem max_rev (l : List Nat) : maxL l.reverse = maxL l := by
  have app : ∀ (a b : List Nat), maxL (a ++ b) = max (maxL a) (maxL b) := by
    intro a b
    induction a with
    | nil => simp [maxL]
    | cons x r ih => simp only [List.cons_append, maxL, ih]; omega
  induction l with
  | nil => rfl
  | cons x r ih => rw [List.reverse_cons, app, ih]; simp [maxL]; omega
theorem tur_nod (n : Nat) : ∀ x, nodN n (turN n x) = nodN n x := by
  induction n with
  | zero => intro x; rfl
  | succ n ih =>
    intro x
    have e2 : (nodN n ∘ turN n) = nodN n := funext ih
    rw [nodN, nodN, tur2]
    split
    · rw [List.map_reverse, sum_rev, List.map_map, e2]
    · rw [List.map_map, e2]
theorem tur_dep (n : Nat) : ∀ x, depN n (turN n x) = depN n x := by
  induction n with
  | zero => intro x; rfl
  | succ n ih =>
    intro x
    have e2 : (depN n ∘ turN n) = depN n := funext ih
    rw [depN, depN, tur2]
    split
    · rw [List.map_reverse, max_rev, List.map_map, e2]
    · rw [List.map_map, e2]
theorem tur_shp (n : Nat) (x : S25) : shp (turN (n + 1) x) = shp x := by
  unfold shp
  rw [tur_len, tur0, tur1]
theorem tur_sh (n : Nat) : ∀ x, shN n (turN n x) = shN n x := by
  induction n with
  | zero => intro x; rfl
  | succ n ih =>
    intro x
    have e2 : (shN n ∘ turN n) = shN n := funext ih
    rw [shN, shN, tur_shp, tur2]
    split
    · rw [List.all_reverse, List.all_map, e2]
    · rw [List.all_map, e2]
theorem tur_emp (n : Nat) : ∀ x, empN n (turN n x) = empN n x := by
  induction n with
  | zero => intro x; rfl
  | succ n ih =>
    intro x
    have e2 : (empN n ∘ turN n) = empN n := funext ih
    have e3 : (turN (n + 1) x).f2.all (empN n) = x.f2.all (empN n) := by
      rw [tur2]; split
      · rw [List.all_reverse, List.all_map, e2]
      · rw [List.all_map, e2]
    have e4 : (turN (n + 1) x).f2.any (empN n) = x.f2.any (empN n) := by
      rw [tur2]; split
      · rw [List.any_reverse, List.any_map, e2]
      · rw [List.any_map, e2]
    rw [empN, empN, tur0, e3, e4]

theorem M_turn (ok : Int → Int → Prop) (w : List Int) (n : Nat) : ∀ (x : S25) (i j : Nat), i ≤ w.length → shN n x = true → M ok w n x i j → M ok w.reverse n (turN n x) (w.length - j) (w.length - i) := by
  induction n with
  | zero => intro x i j _ h; simp [shN] at h
  | succ n ih =>
    intro x i j hi hs hm
    obtain ⟨g1, g2⟩ := shN_kid hs
    have seq : ∀ (l : List S25), (∀ k ∈ l, shN n k = true) → ∀ (i j : Nat), i ≤ w.length → SeqR (M ok w n) l i j → SeqR (M ok w.reverse n) (l.map (turN n)).reverse (w.length - j) (w.length - i) := by
      intro l
      induction l with
      | nil => intro _ i j _ h; have e : i = j := h; subst e; exact rfl
      | cons k r ihr =>
        rintro hl i j hi ⟨m, a, b⟩
        have hmi := M_le ok w n k i m a hi
        rw [List.map_cons, List.reverse_cons, SeqR.append]
        exact ⟨w.length - m, ihr (fun z hz => hl z (by simp [hz])) m j hmi.2 b, w.length - i, ih k i m hi (hl k (by simp)) a, rfl⟩
    rcases shp_kinds g1 with h | h | h | h | h | h
    · rw [M_nil (show (turN (n + 1) x).f0 = 0 from h)]
      have e := (M_nil h).1 hm
      omega
    · obtain ⟨rfl, a, b⟩ := (M_set h).1 hm
      rw [M_set (show (turN (n + 1) x).f0 = 1 from h), tur1, List.length_reverse]
      refine ⟨by omega, by omega, ?_⟩
      have e : w.reverse.getD (w.length - (i + 1)) 0 = w.getD i 0 := by
        rw [List.getD_eq_getElem?_getD, List.getD_eq_getElem?_getD, List.getElem?_reverse (by omega)]
        congr 2
        omega
      rw [e]
      exact b
    · rw [M_cat (show (turN (n + 1) x).f0 = 2 from h), tur2, if_pos h]
      exact seq x.f2 g2 i j hi ((M_cat h).1 hm)
    · obtain ⟨k, a, b⟩ := (M_alt h).1 hm
      rw [M_alt (show (turN (n + 1) x).f0 = 3 from h)]
      exact ⟨turN n k, (tur_mem n x _).2 ⟨k, a, rfl⟩, ih k i j hi (g2 k a) b⟩
    · obtain ⟨k, a, b⟩ := (M_star h).1 hm
      have hk : k ∈ x.f2 := List.mem_of_mem_head? (by rw [a]; rfl)
      rw [M_star (show (turN (n + 1) x).f0 = 4 from h)]
      refine ⟨turN n k, by rw [tur2, if_neg (by rw [h]; decide), List.head?_map, a]; rfl, ?_⟩
      have key : ∀ {i j : Nat}, i ≤ w.length → StarR (M ok w n k) i j → StarR (M ok w.reverse n (turN n k)) (w.length - j) (w.length - i) := by
        intro i j hi hst
        induction hst with
        | refl => exact .refl _
        | @step m j hst hr ihs =>
          have hb := (star_first (fun p q hp hq => M_le ok w n k p q hq hp) hi hst).1
          exact .head (ih k m j hb (g2 k hk) hr) ihs
      exact key hi b
    · rw [M_opt (show (turN (n + 1) x).f0 = 5 from h)]
      rcases (M_opt h).1 hm with e | ⟨k, a, b⟩
      · left; omega
      · have hk : k ∈ x.f2 := List.mem_of_mem_head? (by rw [a]; rfl)
        exact Or.inr ⟨turN n k, by rw [tur2, if_neg (by rw [h]; decide), List.head?_map, a]; rfl, ih k i j hi (g2 k hk) b⟩
/-- From the first place to the last: both ways. -/
theorem M_turn_all (ok : Int → Int → Prop) (w : List Int) (n : Nat) (x : S25) (hs : shN n x = true) : M ok w n x 0 w.length ↔ M ok w.reverse n (turN n x) 0 w.length := by
  constructor
  · intro h
    have := M_turn ok w n x 0 w.length (Nat.zero_le _) hs h
    rwa [Nat.sub_self, Nat.sub_zero] at this
  · intro h
    have := M_turn ok w.reverse n (turN n x) 0 w.length (Nat.zero_le _) (by rw [tur_sh]; exact hs) h
    rwa [List.length_reverse, List.reverse_reverse, turN_turN, Nat.sub_self, Nat.sub_zero] at this
theorem samN_turn (n : Nat) (x : S25) : samN n (turN n (turN n x)) x = true := by
  rw [turN_turN]; exact samN_refl n x
end Go.Proofs.Ytbhkjaiaglkgjaa
