/- What the printed functions of fuel answer, in plain Lean: the empty word, what words begin with, the turned one, nodes, depth, alike, great. Condition: no node has more than 120 kids, and the tree is at most n deep. -/
import Derived.Test.YtbhkjaiaglkgjaaWalk
import Derived.Test.YtbhkjaiaglkgjaaPRegexTellsx2
import Derived.Test.YtbhkjaiaglkgjaaPRegexTellsx3
import Derived.Test.YtbhkjaiaglkgjaaPRegexTellsx5
import Derived.Test.YtbhkjaiaglkgjaaPRegexTellsx6
import Derived.Test.YtbhkjaiaglkgjaaSame
namespace Go.Proofs.Ytbhkjaiaglkgjaa
open Go.RowKit PRegexTells

theorem w64 {x : Int} (h1 : -9223372036854775808 ≤ x) (h2 : x ≤ 9223372036854775807) : wrap64 x = x := by unfold wrap64; omega
theorem wS (n : Nat) (h : n ≤ 17592186044416) : wrap64 ((n : Int) + 1) = ((n + 1 : Nat) : Int) := by rw [w64 (by omega) (by omega)]; omega
theorem wP (n : Nat) (h : n + 1 ≤ 17592186044416) : wrap64 (((n + 1 : Nat) : Int) - 1) = (n : Int) := by rw [w64 (by omega) (by omega)]; omega

def empN : Nat → S25 → Bool
  | 0, _ => false
  | n + 1, x => if x.f0 = 1 then false else if x.f0 = 2 then x.f2.all (empN n) else if x.f0 = 3 then x.f2.any (empN n) else true

theorem empty_f (n : Nat) : ∀ (x : S25), Sm n x → ∀ k, 130 * n ≤ k → regex_empty.f k x.f0 x.f1 x.f2 = some (empN n x) := by
  induction n with
  | zero => intro x h; exact h.elim
  | succ n ih =>
    have l0 : ∀ (l : List S25), l.length ≤ 120 → (∀ y ∈ l, Sm n y) → ∀ (j i k : Nat), i + j = l.length → 130 * n + 1 + j ≤ k → regex_empty.l0 k l (l.length : Int) (i : Int) = some ((l.drop i).all (empN n)) := by
      intro l hl hs j
      induction j with
      | zero =>
        intro i k hi hk
        obtain ⟨k, rfl⟩ : ∃ q, k = q + 1 := ⟨k - 1, by omega⟩
        rw [regex_empty.l0, if_neg (by omega), List.drop_eq_nil_of_le (by omega)]; rfl
      | succ j ihj =>
        intro i k hi hk
        obtain ⟨k, rfl⟩ : ∃ q, k = q + 1 := ⟨k - 1, by omega⟩
        rw [regex_empty.l0, if_pos (by omega), if_pos (by omega), if_pos (by omega), ih _ (hs _ (rd_mem l i (by omega))) k (by omega), Option.bind_some, wS i (by omega), rd_drop l i (by omega), List.all_cons, ihj (i + 1) k (by omega) (by omega)]
        cases empN n (rd_T25 l (i : Int)) <;> simp
    have l1 : ∀ (l : List S25), l.length ≤ 120 → (∀ y ∈ l, Sm n y) → ∀ (j i k : Nat), i + j = l.length → 130 * n + 1 + j ≤ k → regex_empty.l1 k l (l.length : Int) (i : Int) = some ((l.drop i).any (empN n)) := by
      intro l hl hs j
      induction j with
      | zero =>
        intro i k hi hk
        obtain ⟨k, rfl⟩ : ∃ q, k = q + 1 := ⟨k - 1, by omega⟩
        rw [regex_empty.l1, if_neg (by omega), List.drop_eq_nil_of_le (by omega)]; rfl
      | succ j ihj =>
        intro i k hi hk
        obtain ⟨k, rfl⟩ : ∃ q, k = q + 1 := ⟨k - 1, by omega⟩
        rw [regex_empty.l1, if_pos (by omega), if_pos (by omega), if_pos (by omega), ih _ (hs _ (rd_mem l i (by omega))) k (by omega), Option.bind_some, wS i (by omega), rd_drop l i (by omega), List.any_cons, ihj (i + 1) k (by omega) (by omega)]
        cases empN n (rd_T25 l (i : Int)) <;> simp
    intro x h k hk
    have hlen := h.len
    obtain ⟨k, rfl⟩ : ∃ q, k = q + 1 := ⟨k - 1, by omega⟩
    rw [regex_empty.f, empN]
    have e0 := l0 x.f2 hlen h.2 x.f2.length 0 k (by omega) (by omega)
    have e1 := l1 x.f2 hlen h.2 x.f2.length 0 k (by omega) (by omega)
    rw [List.drop_zero] at e0 e1
    rw [show ((0 : Int)) = ((0 : Nat) : Int) from rfl, e0, e1]
    split
    · rfl
    · split
      · rfl
      · split <;> rfl

/-- What is begun with: kid after kid, in a row up to the first that has not the empty word. -/
def firL (fst : S25 → Int) (emp : S25 → Bool) (kind : Int) : List S25 → Int → Int
  | [], s => s
  | k :: r, s => if kind = 2 ∧ emp k = false then Go.bits .or .u16 s (fst k) else firL fst emp kind r (Go.bits .or .u16 s (fst k))
def firN : Nat → S25 → Int
  | 0, _ => 0
  | n + 1, x => firL (firN n) (empN n) x.f0 x.f2 x.f1

theorem first_f (n : Nat) : ∀ (x : S25), Sm n x → ∀ k, 130 * n ≤ k → regex_first.f k x.f0 x.f1 x.f2 = some (firN n x) := by
  induction n with
  | zero => intro x h; exact h.elim
  | succ n ih =>
    have l0 : ∀ (l : List S25) (kd p : Int) (l' : List S25), l.length ≤ 120 → (∀ y ∈ l, Sm n y) → ∀ (j i k : Nat) (s : Int), i + j = l.length → 130 * n + 1 + j ≤ k → regex_first.l0 k s l (l.length : Int) (i : Int) kd p l' = some (firL (firN n) (empN n) kd (l.drop i) s) := by
      intro l kd p l' hl hs j
      induction j with
      | zero =>
        intro i k s hi hk
        obtain ⟨k, rfl⟩ : ∃ q, k = q + 1 := ⟨k - 1, by omega⟩
        rw [regex_first.l0, if_neg (by omega), List.drop_eq_nil_of_le (by omega)]; rfl
      | succ j ihj =>
        intro i k s hi hk
        obtain ⟨k, rfl⟩ : ∃ q, k = q + 1 := ⟨k - 1, by omega⟩
        have hy := hs _ (rd_mem l i (by omega))
        rw [regex_first.l0, if_pos (by omega), if_pos (by omega), if_pos (by omega), ih _ hy k (by omega), Option.bind_some, wS i (by omega), rd_drop l i (by omega), firL, empty_f n _ hy k (by omega), Option.bind_some, ihj (i + 1) k _ (by omega) (by omega)]
        by_cases hk2 : kd = 2
        · cases empN n (rd_T25 l (i : Int)) <;> simp [hk2]
        · simp [hk2]
    intro x h k hk
    have hlen := h.len
    obtain ⟨k, rfl⟩ : ∃ q, k = q + 1 := ⟨k - 1, by omega⟩
    rw [regex_first.f, firN]
    exact l0 x.f2 x.f0 x.f1 x.f2 hlen h.2 x.f2.length 0 k x.f1 (by omega) (by omega)

theorem eta25 (x : S25) : (⟨x.f0, x.f1, x.f2⟩ : S25) = x := by cases x; rfl
def turN : Nat → S25 → S25
  | 0, x => x
  | n + 1, x => ⟨x.f0, x.f1, if x.f0 = 2 then (x.f2.map (turN n)).reverse else x.f2.map (turN n)⟩
theorem turned_f (n : Nat) : ∀ (x : S25), Sm n x → ∀ k, 130 * n ≤ k → regex_turned.f k x.f0 x.f1 x.f2 = some ((turN n x).f0, (turN n x).f1, (turN n x).f2) := by
  induction n with
  | zero => intro x h; exact h.elim
  | succ n ih =>
    have l0 : ∀ (l : List S25) (kd p a b : Int), l.length ≤ 120 → (∀ y ∈ l, Sm n y) → ∀ (j i k : Nat) (o : List S25), i + j = l.length → o.length = i → 130 * n + 1 + j ≤ k → regex_turned.l0 k (i : Int) (l.length : Int) kd p l a b o = some (a, b, o ++ if kd = 2 then ((l.take j).map (turN n)).reverse else (l.drop i).map (turN n)) := by
      intro l kd p a b hl hs j
      induction j with
      | zero =>
        intro i k o hi ho hk
        obtain ⟨k, rfl⟩ : ∃ q, k = q + 1 := ⟨k - 1, by omega⟩
        rw [regex_turned.l0, if_neg (by omega), List.drop_eq_nil_of_le (by omega)]
        simp
      | succ j ihj =>
        intro i k o hi ho hk
        obtain ⟨k, rfl⟩ : ∃ q, k = q + 1 := ⟨k - 1, by omega⟩
        rw [regex_turned.l0, if_pos (by omega)]
        by_cases hk2 : kd = 2
        · have ew : wrap64 (wrap64 ((l.length : Int) - 1) - (i : Int)) = (j : Int) := by
            rw [w64 (x := (l.length : Int) - 1) (by omega) (by omega), w64 (by omega) (by omega)]; omega
          rw [if_pos hk2, ew, if_pos (by omega), if_pos (by omega), ih _ (hs _ (rd_mem l j (by omega))) k (by omega), Option.bind_some, if_pos (by omega), wS i (by omega), ihj (i + 1) k _ (by omega) (by simp; omega) (by omega), if_pos hk2, if_pos hk2]
          have et : l.take (j + 1) = l.take j ++ [rd_T25 l (j : Int)] := by
            rw [List.take_add_one]
            unfold rd_T25
            rw [Int.toNat_natCast, List.getD_eq_getElem?_getD, List.getElem?_eq_getElem (by omega)]; rfl
          rw [et, List.map_append, List.reverse_append]
          simp [eta25]
        · rw [if_neg hk2, if_pos (by omega), if_pos (by omega), ih _ (hs _ (rd_mem l i (by omega))) k (by omega), Option.bind_some, if_pos (by omega), wS i (by omega), ihj (i + 1) k _ (by omega) (by simp; omega) (by omega), if_neg hk2, if_neg hk2, rd_drop l i (by omega)]
          simp [eta25]
    intro x h k hk
    have hlen := h.len
    obtain ⟨k, rfl⟩ : ∃ q, k = q + 1 := ⟨k - 1, by omega⟩
    rw [regex_turned.f, turN]
    have := l0 x.f2 x.f0 x.f1 x.f0 x.f1 hlen h.2 x.f2.length 0 k [] (by omega) rfl (by omega)
    rw [List.take_length] at this
    rw [show ((0 : Int)) = ((0 : Nat) : Int) from rfl, this]
    simp

/-! Nodes and depth -/
def sumL : List Nat → Nat
  | [] => 0
  | a :: r => a + sumL r
def maxL : List Nat → Nat
  | [] => 0
  | a :: r => max a (maxL r)
def nodN : Nat → S25 → Nat
  | 0, _ => 0
  | n + 1, x => 1 + sumL (x.f2.map (nodN n))
def depN : Nat → S25 → Nat
  | 0, _ => 0
  | n + 1, x => 1 + maxL (x.f2.map (depN n))
def rnL (f : S25 → Int) : List S25 → Int → Int
  | [], s => s
  | k :: r, s => if s < 101 then rnL f r (wrap64 (s + f k)) else s
def rnN : Nat → S25 → Int
  | 0, _ => 1
  | n + 1, x => rnL (rnN n) x.f2 1
theorem rnodes_f (n : Nat) : ∀ (x : S25), Sm n x → ∀ k, 130 * n ≤ k → reedpenref04_Nodes.f k x.f0 x.f1 x.f2 = some (rnN n x) := by
  induction n with
  | zero => intro x h; exact h.elim
  | succ n ih =>
    have l0 : ∀ (l : List S25) (a b : Int), l.length ≤ 120 → (∀ y ∈ l, Sm n y) → ∀ (j i k : Nat) (s : Int), i + j = l.length → 130 * n + 1 + j ≤ k → reedpenref04_Nodes.l0 k s (i : Int) a b l = some (rnL (rnN n) (l.drop i) s) := by
      intro l a b hl hs j
      induction j with
      | zero =>
        intro i k s hi hk
        obtain ⟨k, rfl⟩ : ∃ q, k = q + 1 := ⟨k - 1, by omega⟩
        rw [reedpenref04_Nodes.l0, if_neg (by omega), List.drop_eq_nil_of_le (by omega)]; rfl
      | succ j ihj =>
        intro i k s hi hk
        obtain ⟨k, rfl⟩ : ∃ q, k = q + 1 := ⟨k - 1, by omega⟩
        rw [reedpenref04_Nodes.l0, if_pos (by omega), rd_drop l i (by omega), rnL]
        by_cases h1 : s < 101
        · rw [if_pos h1, if_pos h1, if_pos (by omega), ih _ (hs _ (rd_mem l i (by omega))) k (by omega), Option.bind_some, wS i (by omega), ihj (i + 1) k _ (by omega) (by omega)]
        · rw [if_neg h1, if_neg h1]
    intro x h k hk
    have hlen := h.len
    obtain ⟨k, rfl⟩ : ∃ q, k = q + 1 := ⟨k - 1, by omega⟩
    rw [reedpenref04_Nodes.f, rnN]
    exact l0 x.f2 x.f0 x.f1 hlen h.2 x.f2.length 0 k 1 (by omega) (by omega)
theorem rn_spec (n : Nat) : n ≤ 1000 → ∀ (x : S25), Sm n x → 1 ≤ rnN n x ∧ rnN n x ≤ 100 * n + 1 ∧ (nodN n x ≤ 100 → rnN n x = nodN n x) ∧ (rnN n x ≤ 100 → rnN n x = nodN n x) := by
  induction n with
  | zero => intro _ x h; exact h.elim
  | succ n ih =>
    intro hn
    have l0 : ∀ (l : List S25), (∀ y ∈ l, Sm n y) → ∀ (s : Int), 1 ≤ s → s ≤ 100 * (n + 1 : Nat) + 1 → s ≤ rnL (rnN n) l s ∧ rnL (rnN n) l s ≤ 100 * (n + 1 : Nat) + 1 ∧ (s + sumL (l.map (nodN n)) ≤ 100 → rnL (rnN n) l s = s + sumL (l.map (nodN n))) ∧ (rnL (rnN n) l s ≤ 100 → rnL (rnN n) l s = s + sumL (l.map (nodN n))) := by
      intro l
      induction l with
      | nil => intro _ s h1 h2; simp [rnL, sumL]; omega
      | cons y r ihr =>
        intro hs s h1 h2
        obtain ⟨a1, a2, a3, a4⟩ := ih (by omega) y (hs y (by simp))
        rw [rnL, List.map_cons, sumL]
        by_cases h3 : s < 101
        · rw [if_pos h3, w64 (by omega) (by omega)]
          obtain ⟨b1, b2, b3, b4⟩ := ihr (fun z hz => hs z (by simp [hz])) (s + rnN n y) (by omega) (by push_cast at *; omega)
          refine ⟨by omega, b2, fun h => ?_, fun h => ?_⟩
          · have e := a3 (by omega)
            rw [e] at b3 ⊢
            rw [b3 (by omega)]; omega
          · have e := a4 (by omega)
            rw [b4 h, e]; omega
        · rw [if_neg h3]
          exact ⟨by omega, h2, fun h => by omega, fun h => by omega⟩
    intro x h
    obtain ⟨c1, c2, c3, c4⟩ := l0 x.f2 h.2 1 (by omega) (by omega)
    rw [rnN, nodN]
    refine ⟨c1, c2, fun h => ?_, fun h => ?_⟩
    · rw [c3 (by omega)]; omega
    · rw [c4 h]; omega

def rdD : Nat → S25 → Nat
  | 0, _ => 1
  | m + 1, x => 1 + maxL (x.f2.map (rdD m))
theorem rdD_le (m : Nat) : ∀ x, rdD m x ≤ m + 1 := by
  induction m with
  | zero => intro x; simp [rdD]
  | succ m ih =>
    intro x
    have : ∀ l : List S25, maxL (l.map (rdD m)) ≤ m + 1 := by
      intro l
      induction l with
      | nil => simp [maxL]
      | cons y r ihr => rw [List.map_cons, maxL]; have := ih y; omega
    rw [rdD]; have := this x.f2; omega
theorem rdeep_f (n : Nat) : ∀ (x : S25) (m : Nat), m ≤ 1000 → Sm n x → ∀ k, 130 * n ≤ k → reedpenref04_Deep.f k x.f0 x.f1 x.f2 (m : Int) = some (rdD m x : Int) := by
  induction n with
  | zero => intro x m _ h; exact h.elim
  | succ n ih =>
    have l0 : ∀ (m : Nat), m + 1 ≤ 1000 → ∀ (l : List S25) (a b : Int), l.length ≤ 120 → (∀ y ∈ l, Sm n y) → ∀ (j i k : Nat) (s : Nat), s ≤ 1001 → i + j = l.length → 130 * n + 1 + j ≤ k → reedpenref04_Deep.l0 k ((m + 1 : Nat) : Int) (s : Int) (i : Int) a b l = some ((1 + max s (maxL ((l.drop i).map (rdD m))) : Nat) : Int) := by
      intro m hm l a b hl hs j
      induction j with
      | zero =>
        intro i k s h1 hi hk
        obtain ⟨k, rfl⟩ : ∃ q, k = q + 1 := ⟨k - 1, by omega⟩
        rw [reedpenref04_Deep.l0, if_neg (by omega), List.drop_eq_nil_of_le (by omega), wS s (by omega)]
        simp [maxL]; omega
      | succ j ihj =>
        intro i k s h1 hi hk
        obtain ⟨k, rfl⟩ : ∃ q, k = q + 1 := ⟨k - 1, by omega⟩
        have hd := rdD_le m (rd_T25 l (i : Int))
        rw [reedpenref04_Deep.l0, if_pos (by omega), if_pos (by omega), wP m (by omega), ih _ m (by omega) (hs _ (rd_mem l i (by omega))) k (by omega), Option.bind_some, wS i (by omega), ihj (i + 1) k _ (by omega) (by omega) (by omega), ihj (i + 1) k _ (by omega) (by omega) (by omega), rd_drop l i (by omega), List.map_cons, maxL]
        by_cases h3 : (s : Int) < (rdD m (rd_T25 l (i : Int)) : Int)
        · rw [if_pos h3]; congr 2; omega
        · rw [if_neg h3]; congr 2; omega
    intro x m hm h k hk
    have hlen := h.len
    obtain ⟨k, rfl⟩ : ∃ q, k = q + 1 := ⟨k - 1, by omega⟩
    cases m with
    | zero => rw [reedpenref04_Deep.f, if_pos (by simp)]; rfl
    | succ m =>
      rw [reedpenref04_Deep.f, if_neg (by omega), rdD]
      have := l0 m (by omega) x.f2 x.f0 x.f1 hlen h.2 x.f2.length 0 k 0 (by omega) (by omega) (by omega)
      rw [show ((0 : Int)) = ((0 : Nat) : Int) from rfl, this]
      simp
theorem rdD_min (n : Nat) : ∀ (x : S25) (m : Nat), Sm n x → rdD m x = min (depN n x) (m + 1) := by
  induction n with
  | zero => intro x m h; exact h.elim
  | succ n ih =>
    intro x m h
    cases m with
    | zero => rw [rdD, depN]; omega
    | succ m =>
      have : ∀ l : List S25, (∀ y ∈ l, Sm n y) → maxL (l.map (rdD m)) = min (maxL (l.map (depN n))) (m + 1) := by
        intro l
        induction l with
        | nil => intro _; simp [maxL]
        | cons y r ihr =>
          intro hs
          rw [List.map_cons, List.map_cons, maxL, maxL, ih y m (hs y (by simp)), ihr fun z hz => hs z (by simp [hz])]
          omega
      rw [rdD, depN, this x.f2 h.2]; omega

/-! Alike -/
def samL (f : S25 → S25 → Bool) : List S25 → List S25 → Bool
  | a :: r, b :: q => f a b && samL f r q
  | _, _ => true
def samN : Nat → S25 → S25 → Bool
  | 0, _, _ => true
  | n + 1, a, b => decide (a.f0 = b.f0) && decide (a.f1 = b.f1) && decide (a.f2.length = b.f2.length) && samL (samN n) a.f2 b.f2
theorem lenne (a b : List S25) : ((a.length : Int) != (b.length : Int)) = !decide (a.length = b.length) := by
  rw [Bool.eq_iff_iff]; simp; omega
theorem same_f (n : Nat) : ∀ (a b : S25), Sm n a → ∀ k, 130 * n ≤ k → regex_Same.f k a.f0 a.f1 a.f2 b.f0 b.f1 b.f2 = some (samN n a b) := by
  induction n with
  | zero => intro a b h; exact h.elim
  | succ n ih =>
    have l0 : ∀ (l : List S25) (q : List S25) (a b c d : Int), l.length ≤ 120 → q.length = l.length → (∀ y ∈ l, Sm n y) → ∀ (j i k : Nat), i + j = l.length → 130 * n + 1 + j ≤ k → regex_Same.l0 k (l.length : Int) (i : Int) a b l c d q = some (samL (samN n) (l.drop i) (q.drop i)) := by
      intro l q a b c d hl hq hs j
      induction j with
      | zero =>
        intro i k hi hk
        obtain ⟨k, rfl⟩ : ∃ q, k = q + 1 := ⟨k - 1, by omega⟩
        rw [regex_Same.l0, if_neg (by omega), List.drop_eq_nil_of_le (by omega)]; rfl
      | succ j ihj =>
        intro i k hi hk
        obtain ⟨k, rfl⟩ : ∃ q, k = q + 1 := ⟨k - 1, by omega⟩
        rw [regex_Same.l0, if_pos (by omega), if_pos (by omega), if_pos (by omega), if_pos (by omega), ih _ _ (hs _ (rd_mem l i (by omega))) k (by omega), Option.bind_some, wS i (by omega), rd_drop l i (by omega), rd_drop q i (by omega), samL, ihj (i + 1) k (by omega) (by omega)]
        cases samN n (rd_T25 l (i : Int)) (rd_T25 q (i : Int)) <;> simp
    intro a b h k hk
    have hlen := h.len
    obtain ⟨k, rfl⟩ : ∃ q, k = q + 2 := ⟨k - 2, by omega⟩
    rw [regex_Same.f, samN]
    by_cases h0 : a.f0 = b.f0
    · by_cases h1 : a.f1 = b.f1
      · rw [if_pos h0, if_pos h1, regex_Same.j0, lenne]
        by_cases h2 : a.f2.length = b.f2.length
        · have := l0 a.f2 b.f2 a.f0 a.f1 b.f0 b.f1 hlen h2.symm h.2 a.f2.length 0 k (by omega) (by omega)
          rw [show ((0 : Int)) = ((0 : Nat) : Int) from rfl, this]
          simp [h0, h1, h2]
        · simp [h2]
      · rw [if_pos h0, if_neg h1, regex_Same.j0]
        simp [h1]
    · rw [if_neg h0, regex_Same.j0]
      simp [h0]
theorem rsame_f (n : Nat) : ∀ (a b : S25) (m : Nat), n ≤ m → m ≤ 1000 → Sm n a → ∀ k, 260 * n ≤ k → reedpenref04_Same.f k a.f0 a.f1 a.f2 b.f0 b.f1 b.f2 (m : Int) = some (samN n a b) := by
  induction n with
  | zero => intro a b m _ _ h; exact h.elim
  | succ n ih =>
    have l0 : ∀ (m : Nat), n ≤ m → m + 1 ≤ 1000 → ∀ (l : List S25) (q : List S25) (a b c d : Int), l.length ≤ 120 → q.length = l.length → (∀ y ∈ l, Sm n y) → ∀ (j i k : Nat), i + j = l.length → 260 * n + 2 + 2 * j ≤ k → reedpenref04_Same.l0 k ((m + 1 : Nat) : Int) (i : Int) a b l c d q = some (samL (samN n) (l.drop i) (q.drop i)) := by
      intro m hm1 hm2 l q a b c d hl hq hs j
      induction j with
      | zero =>
        intro i k hi hk
        obtain ⟨k, rfl⟩ : ∃ q, k = q + 2 := ⟨k - 2, by omega⟩
        rw [reedpenref04_Same.l0, if_neg (by omega), reedpenref04_Same.j2, if_neg (by simp), List.drop_eq_nil_of_le (by omega)]; rfl
      | succ j ihj =>
        intro i k hi hk
        obtain ⟨k, rfl⟩ : ∃ q, k = q + 2 := ⟨k - 2, by omega⟩
        rw [reedpenref04_Same.l0, if_pos (by omega), reedpenref04_Same.j2, if_pos (by simp <;> omega), if_pos (by omega), if_pos (by omega), if_pos (by omega), wP m (by omega), ih _ _ m (by omega) (by omega) (hs _ (rd_mem l i (by omega))) k (by omega), Option.bind_some, wS i (by omega), rd_drop l i (by omega), rd_drop q i (by omega), samL, ihj (i + 1) k (by omega) (by omega)]
        cases samN n (rd_T25 l (i : Int)) (rd_T25 q (i : Int)) <;> simp
    intro a b m hm1 hm2 h k hk
    have hlen := h.len
    obtain ⟨m, rfl⟩ : ∃ q, m = q + 1 := ⟨m - 1, by omega⟩
    obtain ⟨k, rfl⟩ : ∃ q, k = q + 2 := ⟨k - 2, by omega⟩
    rw [reedpenref04_Same.f, samN]
    by_cases h0 : a.f0 = b.f0
    · by_cases h1 : a.f1 = b.f1
      · rw [if_pos h0, if_pos h1, reedpenref04_Same.j0, lenne]
        by_cases h2 : a.f2.length = b.f2.length
        · have := l0 m (by omega) (by omega) a.f2 b.f2 a.f0 a.f1 b.f0 b.f1 hlen h2.symm h.2 a.f2.length 0 k (by omega) (by omega)
          rw [show ((0 : Int)) = ((0 : Nat) : Int) from rfl, this]
          simp [h0, h1, h2]
        · simp [h2]
      · rw [if_pos h0, if_neg h1, reedpenref04_Same.j0]
        simp [h1]
    · rw [if_neg h0, reedpenref04_Same.j0]
      simp [h0]

/-! Great -/
def greN : Nat → S25 → Bool
  | 0, _ => true
  | m + 1, x => decide (120 < x.f2.length) || x.f2.any (greN m)
theorem gre_false (m : Nat) : ∀ x, greN m x = false → Sm m x := by
  induction m with
  | zero => intro x h; simp [greN] at h
  | succ m ih =>
    intro x h
    rw [greN, Bool.or_eq_false_iff] at h
    refine ⟨by have := h.1; simp at this; omega, fun k hk => ih k ?_⟩
    have h2 := h.2
    rw [List.any_eq_false] at h2
    simpa using h2 k hk
theorem great_f (m : Nat) : m ≤ 1000 → ∀ (x : S25) (k : Nat), 130 * m + 2 ≤ k → reedpenref04_Great.f k x.f0 x.f1 x.f2 (m : Int) = some (greN m x) := by
  induction m with
  | zero =>
    intro _ x k hk
    obtain ⟨k, rfl⟩ : ∃ q, k = q + 2 := ⟨k - 2, by omega⟩
    rw [reedpenref04_Great.f]
    split <;> rw [reedpenref04_Great.j0] <;> simp [greN]
  | succ m ih =>
    intro hm
    have l0 : ∀ (l : List S25) (a b : Int), l.length ≤ 120 → ∀ (j i k : Nat), i + j = l.length → 130 * m + 3 + j ≤ k → reedpenref04_Great.l0 k ((m + 1 : Nat) : Int) (i : Int) a b l = some ((l.drop i).any (greN m)) := by
      intro l a b hl j
      induction j with
      | zero =>
        intro i k hi hk
        obtain ⟨k, rfl⟩ : ∃ q, k = q + 1 := ⟨k - 1, by omega⟩
        rw [reedpenref04_Great.l0, if_neg (by omega), List.drop_eq_nil_of_le (by omega)]; rfl
      | succ j ihj =>
        intro i k hi hk
        obtain ⟨k, rfl⟩ : ∃ q, k = q + 1 := ⟨k - 1, by omega⟩
        rw [reedpenref04_Great.l0, if_pos (by omega), if_pos (by omega), wP m (by omega), ih (by omega) _ k (by omega), Option.bind_some, wS i (by omega), rd_drop l i (by omega), List.any_cons, ihj (i + 1) k (by omega) (by omega)]
        cases greN m (rd_T25 l (i : Int)) <;> simp
    intro x k hk
    obtain ⟨k, rfl⟩ : ∃ q, k = q + 2 := ⟨k - 2, by omega⟩
    rw [reedpenref04_Great.f, greN]
    by_cases h : 120 < x.f2.length
    · rw [if_pos (by omega), reedpenref04_Great.j0]; simp [h]
    · rw [if_neg (by omega), reedpenref04_Great.j0]
      have := l0 x.f2 x.f0 x.f1 (by omega) x.f2.length 0 k (by omega) (by omega)
      rw [show ((0 : Int)) = ((0 : Nat) : Int) from rfl, this]
      rw [if_neg (by simp; omega)]
      simp [h]
end Go.Proofs.Ytbhkjaiaglkgjaa
