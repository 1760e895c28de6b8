/- What Ends' functions of fuel answer, in plain Lean: all places at which a word may end. Conditions: no node has more than 120 kids, the tree is at most n deep and its nodes may be, the word has at most 30 letters. -/
import Derived.Test.YtbhkjaiaglkgjaaEndsF
import Derived.Test.YtbhkjaiaglkgjaaTurn
namespace Go.Proofs.Ytbhkjaiaglkgjaa
open Go.RowKit PRegexTells Go.Proofs.YtbhkjaiaglkgjaaW.PrintWords

/-- The category c is in the set s. -/
def okc (c s : Int) : Prop := 0 ≤ c ∧ c < 16 ∧ Go.bits .and .u16 (shr .u16 s (IntKind.u64.wrap c)) 1 = 1

theorem rdb (l : List Bool) (i : Nat) : rdOf false l (i : Int) = l.getD i false := by unfold rdOf; rw [Int.toNat_natCast]
theorem set_take (l : List Bool) (i : Nat) (v : Bool) (h : i < l.length) : (l.set i v).take (i + 1) = l.take i ++ [v] := by
  rw [List.take_add_one, List.take_set_of_le (Nat.le_refl _), List.getElem?_set_self h]; rfl
theorem drop_one (l : List Bool) (i : Nat) (h : i < l.length) : l.drop i = l.getD i false :: l.drop (i + 1) := by
  rw [List.drop_eq_getElem_cons h, List.getD_eq_getElem?_getD, List.getElem?_eq_getElem h]; rfl

theorem ends_l0 (f : List Bool) : ∀ (j i k : Nat) (o : List Bool), i + j = f.length → o.length = f.length → f.length ≤ 100 → j + 1 ≤ k → rEnds.l0 k f o (i : Int) = some (o.take i ++ f.drop i) := by
  intro j
  induction j with
  | zero =>
    intro i k o hi ho hf hk
    obtain ⟨k, rfl⟩ : ∃ q, k = q + 1 := ⟨k - 1, by omega⟩
    rw [rEnds.l0, if_neg (by omega), List.drop_eq_nil_of_le (by omega), List.take_of_length_le (by omega), List.append_nil]
  | succ j ih =>
    intro i k o hi ho hf hk
    obtain ⟨k, rfl⟩ : ∃ q, k = q + 1 := ⟨k - 1, by omega⟩
    rw [rEnds.l0, if_pos (by omega), if_pos (by omega), if_pos (by omega), wS i (by omega), Int.toNat_natCast, rdb, ih (i + 1) k _ (by omega) (by simp; omega) hf (by omega), set_take _ _ _ (by omega), drop_one f i (by omega)]
    simp

/-- The copy that stands ahead of the kids in a row: fuel is left over. -/
theorem ends_l2 (w : List Int) (a b : Int) (l : List S25) (f : List Bool) : ∀ (j i k : Nat) (o : List Bool), i + j = f.length → o.length = f.length → f.length ≤ 100 → rEnds.l2 (k + j + 1) w f o (i : Int) a b l = rEnds.l3 k w (o.take i ++ f.drop i) 0 a b l := by
  intro j
  induction j with
  | zero =>
    intro i k o hi ho hf
    rw [rEnds.l2, if_neg (by omega), List.drop_eq_nil_of_le (by omega), List.take_of_length_le (by omega), List.append_nil]
  | succ j ih =>
    intro i k o hi ho hf
    rw [show k + (j + 1) + 1 = (k + j + 1) + 1 by omega, rEnds.l2, if_pos (by omega), if_pos (by omega), if_pos (by omega), wS i (by omega), Int.toNat_natCast, rdb, ih (i + 1) k _ (by omega) (by simp; omega) hf, set_take _ _ _ (by omega), drop_one f i (by omega)]
    simp
theorem ends_l6 (w : List Int) (a b : Int) (l : List S25) (f : List Bool) : ∀ (j i k : Nat) (o : List Bool), i + j = f.length → o.length = f.length → f.length ≤ 100 → rEnds.l6 (k + j + 1) w f o (i : Int) a b l = rEnds.l7 k w (o.take i ++ f.drop i) 0 a b l := by
  intro j
  induction j with
  | zero =>
    intro i k o hi ho hf
    rw [rEnds.l6, if_neg (by omega), List.drop_eq_nil_of_le (by omega), List.take_of_length_le (by omega), List.append_nil]
  | succ j ih =>
    intro i k o hi ho hf
    rw [show k + (j + 1) + 1 = (k + j + 1) + 1 by omega, rEnds.l6, if_pos (by omega), if_pos (by omega), if_pos (by omega), wS i (by omega), Int.toNat_natCast, rdb, ih (i + 1) k _ (by omega) (by simp; omega) hf, set_take _ _ _ (by omega), drop_one f i (by omega)]
    simp

def orL (a b : List Bool) : List Bool := List.zipWith (fun x y => x || y) a b
theorem orL_cons (a b : Bool) (l q : List Bool) : orL (a :: l) (b :: q) = (a || b) :: orL l q := rfl
theorem drop_set (l : List Bool) (i : Nat) (v : Bool) : (l.set i v).drop (i + 1) = l.drop (i + 1) := by
  rw [List.drop_set_of_lt (by omega)]
theorem ends_l5 (w : List Int) (f : List Bool) (c : Nat) (hc : c ≤ 1000) (a b : Int) (l : List S25) (x : List Bool) : ∀ (j i k : Nat) (o : List Bool), i + j = o.length → x.length = o.length → o.length ≤ 100 → rEnds.l5 (k + j + 1) w f o (c : Int) x (i : Int) a b l = rEnds.l4 k w f (o.take i ++ orL (o.drop i) (x.drop i)) ((c + 1 : Nat) : Int) a b l := by
  intro j
  induction j with
  | zero =>
    intro i k o hi ho hf
    rw [rEnds.l5, if_neg (by omega), List.drop_eq_nil_of_le (by omega), List.take_of_length_le (by omega), wS c (by omega)]
    simp [orL]
  | succ j ih =>
    intro i k o hi ho hf
    rw [show k + (j + 1) + 1 = (k + j + 1) + 1 by omega, rEnds.l5, if_pos (by omega), if_pos (by omega), wS i (by omega), Int.toNat_natCast, rdb, rdb, drop_one o i (by omega), drop_one x i (by omega), orL_cons]
    cases ho1 : o.getD i false with
    | true =>
      rw [if_pos rfl, ih (i + 1) k _ (by simp; omega) (by simp; omega) (by simp; omega), set_take _ _ _ (by omega), drop_set]
      simp
    | false =>
      rw [if_neg (by simp), if_pos (by omega), ih (i + 1) k _ (by simp; omega) (by simp; omega) (by simp; omega), set_take _ _ _ (by omega), drop_set]
      simp

/-- Is there a place that is new? -/
def newL : List Bool → List Bool → Bool
  | o :: l, x :: q => (x && !o) || newL l q
  | _, _ => false
theorem ends_l8 (w : List Int) (r : Nat) (hr : r ≤ 1000) (a b : Int) (l : List S25) (x : List Bool) : ∀ (j i k : Nat) (o : List Bool) (m : Bool), i + j = o.length → x.length = o.length → o.length ≤ 100 → rEnds.l8 (k + j + 1) w o (r : Int) x m (i : Int) a b l = (if a = 5 then some (o.take i ++ orL (o.drop i) (x.drop i)) else if (m || newL (o.drop i) (x.drop i)) = true then rEnds.l7 k w (o.take i ++ orL (o.drop i) (x.drop i)) ((r + 1 : Nat) : Int) a b l else some (o.take i ++ orL (o.drop i) (x.drop i))) := by
  intro j
  induction j with
  | zero =>
    intro i k o m hi ho hf
    rw [rEnds.l8, if_neg (by omega), List.drop_eq_nil_of_le (by omega), List.take_of_length_le (by omega), wS r (by omega)]
    simp [orL, newL]
  | succ j ih =>
    intro i k o m hi ho hf
    rw [show k + (j + 1) + 1 = (k + j + 1) + 1 by omega, rEnds.l8, if_pos (by omega), wS i (by omega), Int.toNat_natCast, rdb, rdb, drop_one o i (by omega), drop_one x i (by omega), orL_cons, newL]
    have e1 := fun v m' => ih (i + 1) k (o.set i v) m' (by simp; omega) (by simp; omega) (by simp; omega)
    have e2 := fun v => set_take o i v (by omega)
    have e3 := fun v => drop_set o i v
    simp only [e2, e3] at e1
    push_cast at e1
    have p0 : (0 : Int) ≤ (i : Int) := by omega
    have p1 : (i : Int) < (x.length : Int) := by omega
    cases m <;> cases ho1 : o.getD i false <;> cases hx1 : x.getD i false <;> simp [p0, p1, e1]

/-! Place for place -/
theorem orL_len (a b : List Bool) (h : a.length = b.length) : (orL a b).length = a.length := by unfold orL; rw [List.length_zipWith]; omega
theorem orL_at : ∀ (a b : List Bool), a.length = b.length → ∀ j, (orL a b).getD j false = (a.getD j false || b.getD j false)
  | [], [], _, j => by simp [orL]
  | x :: a, y :: b, h, 0 => by simp [orL]
  | x :: a, y :: b, h, j + 1 => by
    have := orL_at a b (by simpa using h) j
    rw [orL_cons]
    simpa using this
theorem newL_false : ∀ (o x : List Bool), o.length = x.length → newL o x = false → ∀ j, x.getD j false = true → o.getD j false = true
  | [], [], _, _, j, h => by simp at h
  | a :: o, b :: x, hl, h, 0, hj => by
    simp [newL] at h hj ⊢
    cases a
    · simp [hj] at h
    · rfl
  | a :: o, b :: x, hl, h, j + 1, hj => by
    simp [newL] at h
    have := newL_false o x (by simpa using hl) h.2 j (by simpa using hj)
    simpa using this
def cntT (l : List Bool) : Nat := sumL (l.map fun b => if b then 1 else 0)
theorem cntT_cons (a : Bool) (l : List Bool) : cntT (a :: l) = (if a then 1 else 0) + cntT l := rfl
theorem cntT_le : ∀ l, cntT l ≤ l.length
  | [] => Nat.le_refl _
  | a :: l => by rw [cntT_cons, List.length_cons]; have := cntT_le l; split <;> omega
theorem cntT_full : ∀ l, l.length ≤ cntT l → ∀ j, j < l.length → l.getD j false = true
  | [], _, j, h => by simp at h
  | a :: l, h, j, hj => by
    rw [cntT_cons, List.length_cons] at h
    have := cntT_le l
    cases a
    · simp at h; omega
    · cases j with
      | zero => rfl
      | succ j => simpa using cntT_full l (by simp at h; omega) j (by simpa using hj)
theorem cntT_or : ∀ (o x : List Bool), o.length = x.length → cntT o ≤ cntT (orL o x) ∧ (newL o x = true → cntT o + 1 ≤ cntT (orL o x))
  | [], [], _ => by simp [newL, orL]
  | a :: o, b :: x, h => by
    obtain ⟨h1, h2⟩ := cntT_or o x (by simpa using h)
    rw [orL_cons, cntT_cons, cntT_cons, newL]
    cases a <;> cases b
    · simp; exact ⟨h1, fun q => h2 q⟩
    · simp; omega
    · simp; exact ⟨h1, fun q => by have := h2 q; omega⟩
    · simp; exact ⟨h1, fun q => by have := h2 q; omega⟩
end Go.Proofs.Ytbhkjaiaglkgjaa
