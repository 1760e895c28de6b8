/- Expressions as trees, in plain Lean: which may be, how many nodes are counted. No program in sight. -/
import Derived.Test.YtbhkjaiaglkgjaaPRegexTellsx1
namespace Go.Proofs.Ytbhkjaiaglkgjaa
open Go.RowKit PRegexTells

/-- Not great: no node has more than 120 kids, and it is at most n deep. -/
def Sm : Nat → S25 → Prop
  | 0, _ => False
  | n + 1, x => x.f2.length ≤ 120 ∧ ∀ k ∈ x.f2, Sm n k
theorem Sm.len {n : Nat} {x : S25} (h : Sm n x) : x.f2.length ≤ 120 := by
  cases n with
  | zero => exact h.elim
  | succ n => exact h.1
theorem Sm.kid {n : Nat} {x : S25} (h : Sm n x) {k : S25} (hk : k ∈ x.f2) : Sm (n - 1) k := by
  cases n with
  | zero => exact h.elim
  | succ n => exact h.2 k hk
theorem Sm.mono {n m : Nat} {x : S25} (h : Sm n x) (hm : n ≤ m) : Sm m x := by
  induction m generalizing n x with
  | zero => obtain rfl : n = 0 := by omega
            exact h
  | succ m ih =>
    refine ⟨h.len, fun k hk => ih (h.kid hk) (by omega)⟩

/-- May a node be, whatever its kids are? -/
def shp (x : S25) : Bool :=
  if x.f0 = 0 then decide (x.f1 = 0) && decide (x.f2.length = 0)
  else if x.f0 = 1 then decide (x.f1 ≠ 0) && decide (x.f2.length = 0)
  else if x.f0 = 2 ∨ x.f0 = 3 then decide (x.f1 = 0) && decide (0 < x.f2.length)
  else if x.f0 = 4 ∨ x.f0 = 5 then decide (x.f1 = 0) && decide (x.f2.length = 1)
  else false

theorem lenb0 (l : List S25) : ((l.length : Int) == 0) = decide (l.length = 0) := by
  rw [Bool.eq_iff_iff, beq_iff_eq, decide_eq_true_iff]; omega
theorem lenb1 (l : List S25) : ((l.length : Int) == 1) = decide (l.length = 1) := by
  rw [Bool.eq_iff_iff, beq_iff_eq, decide_eq_true_iff]; omega
theorem shape_f (x : S25) : regex_shape.f 1 x.f0 x.f1 x.f2 = some (shp x) := by
  unfold regex_shape.f shp
  by_cases h0 : x.f0 = 0
  · simp only [if_pos h0]
    by_cases h1 : x.f1 = 0
    · simp [h1, lenb0]
    · simp [h1]
  · simp only [if_neg h0]
    by_cases h1 : x.f0 = 1
    · simp only [if_pos h1]
      by_cases h2 : x.f1 = 0
      · simp [h2]
      · simp [h2, lenb0]
    · simp only [if_neg h1]
      by_cases h2 : x.f0 = 2
      · simp only [regex_shape.j0, h2]
        by_cases h3 : x.f1 = 0
        · simp [h3]
        · simp [h3]
      · simp only [if_neg h2, regex_shape.j0]
        by_cases h3 : x.f0 = 3
        · by_cases h4 : x.f1 = 0
          · simp [h3, h4]
          · simp [h3, h4]
        · by_cases h5 : x.f0 = 4
          · by_cases h4 : x.f1 = 0
            · simp [h5, h4, lenb1]
            · simp [h5, h4]
          · by_cases h6 : x.f0 = 5
            · by_cases h4 : x.f1 = 0
              · simp [h6, h4, lenb1]
              · simp [h6, h4]
            · simp [h2, h3, h5, h6]

/-- Nodes are taken off what is left, kid after kid. -/
def kidsC (f : S25 → Int → Bool × Int) : List S25 → Int → Bool × Int
  | [], L => (true, L)
  | k :: r, L => if (f k L).1 = true then kidsC f r (f k L).2 else (false, (f k L).2)
def cnt : Nat → S25 → Int → Bool × Int
  | 0, _, L => (false, L - 1)
  | d + 1, x, L => if L - 1 < 0 ∨ shp x = false then (false, L - 1) else kidsC (cnt d) x.f2 (L - 1)

theorem cnt_left (d : Nat) : ∀ (x : S25) (L : Int), 0 ≤ L → (cnt d x L).2 ≤ L ∧ ((cnt d x L).1 = true → 0 ≤ (cnt d x L).2) := by
  induction d with
  | zero => intro x L h; simp [cnt]; omega
  | succ d ih =>
    have kids : ∀ (l : List S25) (L : Int), 0 ≤ L → (kidsC (cnt d) l L).2 ≤ L ∧ ((kidsC (cnt d) l L).1 = true → 0 ≤ (kidsC (cnt d) l L).2) := by
      intro l
      induction l with
      | nil => intro L h; simp [kidsC]; omega
      | cons k r ihr =>
        intro L h
        obtain ⟨h1, h2⟩ := ih k L h
        unfold kidsC
        by_cases hk : (cnt d k L).1 = true
        · rw [if_pos hk]
          obtain ⟨h3, h4⟩ := ihr (cnt d k L).2 (h2 hk)
          exact ⟨by omega, h4⟩
        · rw [if_neg hk]
          exact ⟨h1, by simp⟩
    intro x L h
    unfold cnt
    by_cases hc : L - 1 < 0 ∨ shp x = false
    · rw [if_pos hc]; exact ⟨by simp; omega, by simp⟩
    · rw [if_neg hc]
      obtain ⟨h1, h2⟩ := kids x.f2 (L - 1) (by have := not_or.1 hc; omega)
      exact ⟨by omega, h2⟩

/-- But for one block all blocks that were there are as they were. -/
structure KB (w w' : World) (g : Nat) : Prop where
  size : w.heap.size ≤ w'.heap.size
  block : ∀ i, i < w.heap.size → i ≠ g → w'.heap[i]? = w.heap[i]?
theorem KB.refl (w : World) (g : Nat) : KB w w g := ⟨Nat.le_refl _, fun _ _ _ => rfl⟩
theorem KB.trans {a b c : World} {g : Nat} (h : KB a b g) (k : KB b c g) : KB a c g :=
  ⟨Nat.le_trans h.size k.size, fun i hi hg => (k.block i (Nat.lt_of_lt_of_le hi h.size) hg).trans (h.block i hi hg)⟩
theorem KB.below {w w' : World} (h : Below w.heap.size w w') (g : Nat) : KB w w' g := ⟨h.size, fun i hi _ => h.block i hi⟩
theorem KB.set {w w' : World} {g : Nat} (h : KB w w' g) (o : Nat) (u : Value) : KB w (w'.setCell ⟨g, o, none⟩ u) g :=
  ⟨by simpa [World.setCell] using h.size, fun i hi hg => (Below.heap_setCell w' ⟨g, o, none⟩ u i (by simpa using hg)).trans (h.block i hi hg)⟩
theorem KB.far {w w' : World} {g : Nat} (h : KB w w' g) {p : Addr} (hp : w.heap.size ≤ p.block) (u : Value) : KB w (w'.setCell p u) g :=
  ⟨by simpa [World.setCell] using h.size, fun i hi hg => (Below.heap_setCell w' p u i (by omega)).trans (h.block i hi hg)⟩
theorem KB.drewN {w w' : World} {g : Nat} (h : KB w w' g) (n : Nat) : KB w (w'.drewN n) g := ⟨h.size, h.block⟩
theorem KB.alloc {w w' : World} {g : Nat} (h : KB w w' g) (o : Obj) : KB w (w'.alloc o) g :=
  ⟨by have := h.size; simp; omega, fun i hi hg => (Below.heap_alloc _ _ _ (by have := h.size; omega)).trans (h.block i hi hg)⟩
theorem KB.keep {w w' : World} {g i : Nat} {o : Obj} (h : KB w w' g) (ho : w.heap[i]? = some o) (hg : i ≠ g) : w'.heap[i]? = some o :=
  (h.block i (Array.getElem?_eq_some_iff.1 ho).1 hg).trans ho
end Go.Proofs.Ytbhkjaiaglkgjaa
