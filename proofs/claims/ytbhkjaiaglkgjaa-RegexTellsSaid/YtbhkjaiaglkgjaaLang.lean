/- Which words an expression has, place for place, in plain Lean: no program in sight. -/
import Derived.Test.YtbhkjaiaglkgjaaPlain2
namespace Go.Proofs.Ytbhkjaiaglkgjaa
open Go.RowKit PRegexTells

/-- One kid behind the other, from place i to place j. -/
def SeqR (R : S25 → Nat → Nat → Prop) : List S25 → Nat → Nat → Prop
  | [], i, j => i = j
  | k :: r, i, j => ∃ m, R k i m ∧ SeqR R r m j
/-- Any number, one behind the other. -/
inductive StarR (R : Nat → Nat → Prop) : Nat → Nat → Prop
  | refl (i : Nat) : StarR R i i
  | step {i m j : Nat} : StarR R i m → R m j → StarR R i j
/-- x has the word that stands from place i to place j. 'ok c s': the category c is in the set s. -/
def M (ok : Int → Int → Prop) (w : List Int) : Nat → S25 → Nat → Nat → Prop
  | 0, _, _, _ => False
  | n + 1, x, i, j =>
    if x.f0 = 0 then i = j
    else if x.f0 = 1 then j = i + 1 ∧ i < w.length ∧ ok (w.getD i 0) x.f1
    else if x.f0 = 2 then SeqR (M ok w n) x.f2 i j
    else if x.f0 = 3 then ∃ k ∈ x.f2, M ok w n k i j
    else if x.f0 = 4 then ∃ k, x.f2.head? = some k ∧ StarR (M ok w n k) i j
    else i = j ∨ ∃ k, x.f2.head? = some k ∧ M ok w n k i j

theorem StarR.trans {R : Nat → Nat → Prop} {i m j : Nat} (h : StarR R i m) (k : StarR R m j) : StarR R i j := by
  induction k with
  | refl => exact h
  | step _ hr ih => exact .step ih hr
theorem StarR.head {R : Nat → Nat → Prop} {i m j : Nat} (h : R i m) (k : StarR R m j) : StarR R i j := (StarR.step (.refl i) h).trans k
theorem StarR.mono {R R' : Nat → Nat → Prop} (f : ∀ i j, R i j → R' i j) {i j : Nat} (h : StarR R i j) : StarR R' i j := by
  induction h with
  | refl => exact .refl _
  | step _ hr ih => exact .step ih (f _ _ hr)

theorem SeqR.append {R : S25 → Nat → Nat → Prop} : ∀ {l q : List S25} {i j : Nat}, SeqR R (l ++ q) i j ↔ ∃ m, SeqR R l i m ∧ SeqR R q m j
  | [], q, i, j => by simp [SeqR]
  | k :: r, q, i, j => by
    simp only [List.cons_append, SeqR, SeqR.append (l := r)]
    constructor
    · rintro ⟨m, h1, m', h2, h3⟩; exact ⟨m', ⟨m, h1, h2⟩, h3⟩
    · rintro ⟨m', ⟨m, h1, h2⟩, h3⟩; exact ⟨m, h1, m', h2, h3⟩
theorem M_le (ok : Int → Int → Prop) (w : List Int) (n : Nat) : ∀ (x : S25) (i j : Nat), M ok w n x i j → i ≤ w.length → i ≤ j ∧ j ≤ w.length := by
  induction n with
  | zero => intro x i j h; exact h.elim
  | succ n ih =>
    have seq : ∀ (l : List S25) (i j : Nat), SeqR (M ok w n) l i j → i ≤ w.length → i ≤ j ∧ j ≤ w.length := by
      intro l
      induction l with
      | nil => intro i j h hi; obtain rfl : i = j := h; exact ⟨Nat.le_refl _, hi⟩
      | cons k r ihr =>
        rintro i j ⟨m, h1, h2⟩ hi
        obtain ⟨a, b⟩ := ih k i m h1 hi
        obtain ⟨c, d⟩ := ihr m j h2 b
        exact ⟨by omega, d⟩
    have star : ∀ (k : S25) (i j : Nat), StarR (M ok w n k) i j → i ≤ w.length → i ≤ j ∧ j ≤ w.length := by
      intro k i j h hi
      induction h with
      | refl => exact ⟨Nat.le_refl _, hi⟩
      | step _ hr ihs =>
        obtain ⟨a, b⟩ := ihs
        obtain ⟨c, d⟩ := ih k _ _ hr b
        exact ⟨by omega, d⟩
    intro x i j h hi
    unfold M at h
    split at h
    · obtain rfl : i = j := h; exact ⟨Nat.le_refl _, hi⟩
    · split at h
      · obtain ⟨rfl, h2, _⟩ := h; exact ⟨by omega, by omega⟩
      · split at h
        · exact seq _ _ _ h hi
        · split at h
          · obtain ⟨k, _, hk⟩ := h; exact ih k i j hk hi
          · split at h
            · obtain ⟨k, _, hk⟩ := h; exact star k i j hk hi
            · rcases h with rfl | ⟨k, _, hk⟩
              · exact ⟨Nat.le_refl _, hi⟩
              · exact ih k i j hk hi

section
variable {ok : Int → Int → Prop} {w : List Int} {n i j : Nat} {x : S25}
theorem M_nil (h : x.f0 = 0) : M ok w (n + 1) x i j ↔ i = j := by rw [M]; simp [h]
theorem M_set (h : x.f0 = 1) : M ok w (n + 1) x i j ↔ j = i + 1 ∧ i < w.length ∧ ok (w.getD i 0) x.f1 := by rw [M]; simp [h]
theorem M_cat (h : x.f0 = 2) : M ok w (n + 1) x i j ↔ SeqR (M ok w n) x.f2 i j := by rw [M]; simp [h]
theorem M_alt (h : x.f0 = 3) : M ok w (n + 1) x i j ↔ ∃ k ∈ x.f2, M ok w n k i j := by rw [M]; simp [h]
theorem M_star (h : x.f0 = 4) : M ok w (n + 1) x i j ↔ ∃ k, x.f2.head? = some k ∧ StarR (M ok w n k) i j := by rw [M]; simp [h]
theorem M_opt (h : x.f0 = 5) : M ok w (n + 1) x i j ↔ i = j ∨ ∃ k, x.f2.head? = some k ∧ M ok w n k i j := by rw [M]; simp [h]
theorem e_nil (h : x.f0 = 0) : empN (n + 1) x = true := by simp [empN, h]
theorem e_set (h : x.f0 = 1) : empN (n + 1) x = false := by simp [empN, h]
theorem e_cat (h : x.f0 = 2) : empN (n + 1) x = x.f2.all (empN n) := by simp [empN, h]
theorem e_alt (h : x.f0 = 3) : empN (n + 1) x = x.f2.any (empN n) := by simp [empN, h]
theorem e_star (h : x.f0 = 4) : empN (n + 1) x = true := by simp [empN, h]
theorem e_opt (h : x.f0 = 5) : empN (n + 1) x = true := by simp [empN, h]
theorem one_kid (hs : shp x = true) (h : x.f0 = 4 ∨ x.f0 = 5) : ∃ k, x.f2 = [k] := by
  have hl : x.f2.length = 1 := by
    unfold shp at hs
    rcases h with h | h
    · simp [h] at hs; exact hs.2
    · simp [h] at hs; exact hs.2
  match hx : x.f2, hl with
  | [k], _ => exact ⟨k, rfl⟩
end
theorem shp_kinds {x : S25} (h : shp x = true) : x.f0 = 0 ∨ x.f0 = 1 ∨ x.f0 = 2 ∨ x.f0 = 3 ∨ x.f0 = 4 ∨ x.f0 = 5 := by
  unfold shp at h
  by_cases h0 : x.f0 = 0
  · exact Or.inl h0
  · rw [if_neg h0] at h
    by_cases h1 : x.f0 = 1
    · exact Or.inr (Or.inl h1)
    · rw [if_neg h1] at h
      by_cases h2 : x.f0 = 2 ∨ x.f0 = 3
      · rcases h2 with h2 | h2
        · exact Or.inr (Or.inr (Or.inl h2))
        · exact Or.inr (Or.inr (Or.inr (Or.inl h2)))
      · rw [if_neg h2] at h
        by_cases h4 : x.f0 = 4 ∨ x.f0 = 5
        · rcases h4 with h4 | h4
          · exact Or.inr (Or.inr (Or.inr (Or.inr (Or.inl h4))))
          · exact Or.inr (Or.inr (Or.inr (Or.inr (Or.inr h4))))
        · rw [if_neg h4] at h; simp at h
theorem shN_kid {n : Nat} {x : S25} (h : shN (n + 1) x = true) : shp x = true ∧ ∀ k ∈ x.f2, shN n k = true := by
  rw [shN, Bool.and_eq_true, List.all_eq_true] at h
  exact h
theorem M_emp (ok : Int → Int → Prop) (w : List Int) (n : Nat) : ∀ (x : S25) (i : Nat), i ≤ w.length → shN n x = true → (M ok w n x i i ↔ empN n x = true) := by
  induction n with
  | zero => intro x i _ h; simp [shN] at h
  | succ n ih =>
    intro x i hi hs
    obtain ⟨h1, h2⟩ := shN_kid hs
    have seq : ∀ (l : List S25), (∀ k ∈ l, shN n k = true) → (SeqR (M ok w n) l i i ↔ l.all (empN n) = true) := by
      intro l
      induction l with
      | nil => intro _; simp [SeqR]
      | cons k r ihr =>
        intro hl
        rw [List.all_cons, Bool.and_eq_true, ← ih k i hi (hl k (by simp)), ← ihr fun z hz => hl z (by simp [hz])]
        constructor
        · rintro ⟨m, a, b⟩
          have c := M_le ok w n k i m a hi
          have d : m ≤ i := by
            have : ∀ (l : List S25) (p q : Nat), SeqR (M ok w n) l p q → p ≤ w.length → p ≤ q := by
              intro l
              induction l with
              | nil => intro p q h _; exact Nat.le_of_eq h
              | cons k r ih2 => rintro p q ⟨m, a, b⟩ hp; have c := M_le ok w n k p m a hp; have := ih2 m q b c.2; omega
            exact this r m i b c.2
          obtain rfl : m = i := by omega
          exact ⟨a, b⟩
        · rintro ⟨a, b⟩; exact ⟨i, a, b⟩
    rcases shp_kinds h1 with h | h | h | h | h | h
    · rw [M_nil h, e_nil h]; simp
    · rw [M_set h, e_set h]; simp
    · rw [M_cat h, e_cat h]; exact seq x.f2 h2
    · rw [M_alt h, e_alt h, List.any_eq_true]
      constructor
      · rintro ⟨k, a, b⟩; exact ⟨k, a, (ih k i hi (h2 k a)).1 b⟩
      · rintro ⟨k, a, b⟩; exact ⟨k, a, (ih k i hi (h2 k a)).2 b⟩
    · rw [M_star h, e_star h]
      obtain ⟨k, hk⟩ := one_kid h1 (Or.inl h)
      exact ⟨fun _ => rfl, fun _ => ⟨k, by rw [hk]; rfl, .refl i⟩⟩
    · rw [M_opt h, e_opt h]; simp

/-! What words begin with -/
section
variable {ok : Int → Int → Prop}
theorem firL_mono (h1 : ∀ c a b, ok c a → ok c (Go.bits .or .u16 a b)) (fst : S25 → Int) (emp : S25 → Bool) (kd c : Int) : ∀ (l : List S25) (s : Int), ok c s → ok c (firL fst emp kd l s)
  | [], s, h => h
  | k :: r, s, h => by
    rw [firL]
    split
    · exact h1 c s _ h
    · exact firL_mono h1 fst emp kd c r _ (h1 c s _ h)
theorem firL_mem (h1 : ∀ c a b, ok c a → ok c (Go.bits .or .u16 a b)) (h2 : ∀ c a b, ok c b → ok c (Go.bits .or .u16 a b)) (fst : S25 → Int) (emp : S25 → Bool) (kd c : Int) (hk : kd ≠ 2) : ∀ (l : List S25) (s : Int) (k : S25), k ∈ l → ok c (fst k) → ok c (firL fst emp kd l s)
  | [], s, k, h, _ => by simp at h
  | a :: r, s, k, h, hc => by
    rw [firL, if_neg (fun q => hk q.1)]
    rcases List.mem_cons.1 h with rfl | h
    · exact firL_mono h1 fst emp kd c r _ (h2 c s _ hc)
    · exact firL_mem h1 h2 fst emp kd c hk r _ k h hc
theorem star_first {R : Nat → Nat → Prop} {N : Nat} (hR : ∀ i j, i ≤ N → R i j → i ≤ j ∧ j ≤ N) {i j : Nat} (hi : i ≤ N) (h : StarR R i j) : j ≤ N ∧ i ≤ j ∧ (i < j → ∃ m, R i m ∧ i < m) := by
  induction h with
  | refl => exact ⟨hi, Nat.le_refl _, fun h => by omega⟩
  | @step m j _ hr ih =>
    obtain ⟨a, b, c⟩ := ih
    obtain ⟨d, e⟩ := hR _ _ a hr
    refine ⟨e, by omega, fun h => ?_⟩
    by_cases hm : i < m
    · exact c hm
    · obtain rfl : m = i := by omega
      exact ⟨j, hr, h⟩
theorem M_first (h1 : ∀ c a b, ok c a → ok c (Go.bits .or .u16 a b)) (h2 : ∀ c a b, ok c b → ok c (Go.bits .or .u16 a b)) (w : List Int) (n : Nat) : ∀ (x : S25) (i j : Nat), i ≤ w.length → shN n x = true → M ok w n x i j → i < j → ok (w.getD i 0) (firN n x) := by
  induction n with
  | zero => intro x i j _ h; simp [shN] at h
  | succ n ih =>
    intro x i j hi hs hm hlt
    obtain ⟨g1, g2⟩ := shN_kid hs
    have seq : ∀ (l : List S25), (∀ k ∈ l, shN n k = true) → ∀ (j : Nat) (s : Int), SeqR (M ok w n) l i j → i < j → ok (w.getD i 0) (firL (firN n) (empN n) 2 l s) := by
      intro l
      induction l with
      | nil => intro _ j s h hlt; have : i = j := h; omega
      | cons k r ihr =>
        rintro hl j s ⟨m, a, b⟩ hlt
        rw [firL]
        by_cases hmi : i < m
        · have c := ih k i m hi (hl k (by simp)) a hmi
          split
          · exact h2 _ _ _ c
          · exact firL_mono h1 _ _ _ _ r _ (h2 _ _ _ c)
        · have := M_le ok w n k i m a hi
          obtain rfl : m = i := by omega
          rw [if_neg (fun q => by rw [(M_emp ok w n k m hi (hl k (by simp))).1 a] at q; simp at q)]
          exact ihr (fun z hz => hl z (by simp [hz])) j _ b hlt
    rw [firN]
    rcases shp_kinds g1 with h | h | h | h | h | h
    · rw [M_nil h] at hm; omega
    · obtain ⟨rfl, _, hc⟩ := (M_set h).1 hm
      exact firL_mono h1 _ _ _ _ _ _ hc
    · rw [h]; exact seq x.f2 g2 j _ ((M_cat h).1 hm) hlt
    · obtain ⟨k, a, b⟩ := (M_alt h).1 hm
      exact firL_mem h1 h2 _ _ _ _ (by rw [h]; decide) x.f2 _ k a (ih k i j hi (g2 k a) b hlt)
    · obtain ⟨k, a, b⟩ := (M_star h).1 hm
      have hk : k ∈ x.f2 := List.mem_of_mem_head? (by rw [a]; rfl)
      obtain ⟨m, c, d⟩ := (star_first (fun p q hp hq => M_le ok w n k p q hq hp) hi b).2.2 hlt
      exact firL_mem h1 h2 _ _ _ _ (by rw [h]; decide) x.f2 _ k hk (ih k i m hi (g2 k hk) c d)
    · rcases (M_opt h).1 hm with e | ⟨k, a, b⟩
      · omega
      · have hk : k ∈ x.f2 := List.mem_of_mem_head? (by rw [a]; rfl)
        exact firL_mem h1 h2 _ _ _ _ (by rw [h]; decide) x.f2 _ k hk (ih k i j hi (g2 k hk) b hlt)
end
end Go.Proofs.Ytbhkjaiaglkgjaa
