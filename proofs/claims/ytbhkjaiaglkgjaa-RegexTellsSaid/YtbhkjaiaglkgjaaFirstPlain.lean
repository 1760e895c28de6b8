/- What the call of the reference's First answers: what the words of an expression begin with. Conditions: no node has more than 120 kids, the tree is at most n deep and its nodes may be. -/
import Derived.Test.YtbhkjaiaglkgjaaRFirst
import Derived.Test.YtbhkjaiaglkgjaaHasPlain
namespace Go.Proofs.Ytbhkjaiaglkgjaa
open Go.RowKit PRegexTells Go.Proofs.YtbhkjaiaglkgjaaW.PrintWords

theorem has_nil (n : Nat) (x : S25) (hS : Sm n x) (hs : shN n x = true) (k : Nat) (hk : 5000 * n ≤ k) : reedpenref04_Has.f k x.f0 x.f1 x.f2 [] = some (empN n x) :=
  has_f n x hS hs [] (by simp) (empN n x) (M_emp okc [] n x 0 (Nat.le_refl _) hs).symm k hk

/-! The reference's First -/
theorem firL_ne (fst : S25 → Int) (emp emp' : S25 → Bool) (kind : Int) (h : kind ≠ 2) : ∀ (l : List S25) (s : Int), firL fst emp kind l s = firL fst emp' kind l s
  | [], s => rfl
  | k :: r, s => by rw [firL, firL, if_neg (fun q => h q.1), if_neg (fun q => h q.1), firL_ne fst emp emp' kind h r]
/-- What the loop reckons: 'op' tells whether all kids so far have the empty word. -/
def firO (fst : S25 → Int) (emp : S25 → Bool) (kind : Int) : Bool → List S25 → Int → Int
  | _, [], s => s
  | op, k :: r, s => firO fst emp kind (if kind = 2 then op && emp k else true) r (if op = true then Go.bits .or .u16 s (fst k) else s)
theorem firO_shut (fst : S25 → Int) (emp : S25 → Bool) : ∀ (l : List S25) (s : Int), firO fst emp 2 false l s = s
  | [], s => rfl
  | k :: r, s => by rw [firO, if_pos rfl, if_neg (by simp), Bool.false_and, firO_shut fst emp r]
theorem firO_firL (fst : S25 → Int) (emp : S25 → Bool) (kind : Int) : ∀ (l : List S25) (s : Int), firO fst emp kind true l s = firL fst emp kind l s
  | [], s => rfl
  | k :: r, s => by
    rw [firO, firL, if_pos rfl, Bool.true_and]
    by_cases h : kind = 2
    · subst h
      cases he : emp k
      · rw [if_pos rfl, if_pos ⟨rfl, rfl⟩, firO_shut]
      · rw [if_pos rfl, if_neg (by simp), firO_firL]
    · rw [if_neg h, if_neg (fun q => h q.1), firO_firL]

theorem rfirst_f (n : Nat) : ∀ (x : S25), Sm n x → shN n x = true → ∀ k, 15000 * n ≤ k → reedpenref04_First.f k x.f0 x.f1 x.f2 = some (firN n x) := by
  induction n with
  | zero => intro x h; exact h.elim
  | succ n ih =>
    intro x hx hs k hk
    obtain ⟨s1, s2⟩ := shN_kid hs
    have hl := hx.len
    have l1 : ∀ (d c i k : Nat) (s : Int) (op : Bool), c + d = i → i < x.f2.length → 15000 * n ≤ k → (x.f0 ≠ 2 → op = true) →
        reedpenref04_First.l1 (k + d + 1) s (i : Int) op (c : Int) x.f0 x.f1 x.f2 = (if (op && (decide (x.f0 ≠ 2) || ((x.f2.take i).drop c).all (empN n))) = true then reedpenref04_First.l0 (if x.f0 = 2 then k else k + d) (Go.bits .or .u16 s (firN n (rd_T25 x.f2 (i : Int)))) ((i + 1 : Nat) : Int) x.f0 x.f1 x.f2 else reedpenref04_First.l0 k s ((i + 1 : Nat) : Int) x.f0 x.f1 x.f2) := by
      intro d
      induction d with
      | zero =>
        intro c i k s op hi hlt hk hop
        have hy := rd_mem x.f2 i hlt
        rw [reedpenref04_First.l1, if_neg (by omega), List.drop_eq_nil_of_le (by simp; omega), List.all_nil, Bool.or_true, Bool.and_true]
        by_cases ho : op = true
        · rw [if_pos ho, if_pos ho, if_pos (by omega), if_pos (by omega), ih _ (hx.2 _ hy) (s2 _ hy) k hk, Option.bind_some, wS i (by omega)]
          split <;> rfl
        · rw [if_neg ho, if_neg ho, wS i (by omega)]
      | succ d ihd =>
        intro c i k s op hi hlt hk hop
        have hy := rd_mem x.f2 i hlt
        have hz := rd_mem x.f2 c (by omega)
        rw [show k + (d + 1) + 1 = (k + d + 1) + 1 by omega, reedpenref04_First.l1, if_pos (by omega)]
        by_cases h2 : x.f0 = 2
        · rw [if_pos h2]
          have ed : (x.f2.take i).drop c = rd_T25 x.f2 (c : Int) :: (x.f2.take i).drop (c + 1) := by
            have : c < (x.f2.take i).length := by rw [List.length_take]; omega
            rw [rd_drop _ c this]
            congr 1
            unfold rd_T25
            rw [Int.toNat_natCast, List.getD_eq_getElem?_getD, List.getD_eq_getElem?_getD, List.getElem?_take_of_lt (by omega)]
          have hd : decide (x.f0 ≠ 2) = false := by simp [h2]
          cases op with
          | true =>
            rw [if_pos rfl, if_pos (by omega), if_pos (by omega), has_nil n _ (hx.2 _ hz) (s2 _ hz) _ (by omega), Option.bind_some, wS c (by omega), ihd (c + 1) i k s _ (by omega) hlt hk (fun q => (q h2).elim), ed, List.all_cons, hd]
            simp [h2]
          | false =>
            rw [if_neg (by simp), wS c (by omega), ihd (c + 1) i k s false (by omega) hlt hk (fun q => (q h2).elim)]
            simp
        · rw [if_neg h2, if_pos (hop h2), if_pos (by omega), if_pos (by omega), ih _ (hx.2 _ hy) (s2 _ hy) _ (by omega), Option.bind_some, wS i (by omega), hop h2]
          simp [h2, Nat.add_assoc]
    have l0 : ∀ (j i k : Nat) (s : Int), i + j = x.f2.length → 15000 * n + 122 * j + 1 ≤ k → reedpenref04_First.l0 k s (i : Int) x.f0 x.f1 x.f2 = some (firO (firN n) (empN n) x.f0 (decide (x.f0 ≠ 2) || (x.f2.take i).all (empN n)) (x.f2.drop i) s) := by
      intro j
      induction j with
      | zero =>
        intro i k s hi hk
        obtain ⟨k, rfl⟩ : ∃ q, k = q + 1 := ⟨k - 1, by omega⟩
        rw [reedpenref04_First.l0, if_neg (by omega), List.drop_eq_nil_of_le (by omega)]; rfl
      | succ j ihj =>
        intro i k s hi hk
        obtain ⟨k, rfl⟩ : ∃ q, k = q + i + 1 + 1 := ⟨k - (i + 2), by omega⟩
        have hlt : i < x.f2.length := by omega
        have hm := rd_mem x.f2 i hlt
        have et : x.f2.take (i + 1) = x.f2.take i ++ [rd_T25 x.f2 (i : Int)] := by
          rw [List.take_add_one]
          unfold rd_T25
          rw [Int.toNat_natCast, List.getD_eq_getElem?_getD, List.getElem?_eq_getElem hlt]; rfl
        have h0 := l1 i 0 i k s true (by omega) hlt (by omega) (fun _ => rfl)
        rw [List.drop_zero, Bool.true_and] at h0
        rw [reedpenref04_First.l0, if_pos (by omega), show (0 : Int) = ((0 : Nat) : Int) from rfl, h0, rd_drop x.f2 i hlt, firO]
        have e1 := fun s => ihj (i + 1) k s (by omega) (by omega)
        have e2 := fun s => ihj (i + 1) (k + i) s (by omega) (by omega)
        by_cases h2 : x.f0 = 2
        · have hd : decide (x.f0 ≠ 2) = false := by simp [h2]
          rw [hd, et] at e1
          simp only [List.all_append, List.all_cons, List.all_nil, Bool.and_true, Bool.false_or] at e1
          rw [hd, if_pos h2, Bool.false_or, if_pos h2]
          by_cases ho : (x.f2.take i).all (empN n) = true
          · rw [if_pos ho, if_pos ho, e1]
          · rw [if_neg ho, if_neg ho, e1]
        · have hd : decide (x.f0 ≠ 2) = true := by simp [h2]
          rw [hd] at e2
          rw [hd, Bool.true_or, if_pos rfl, if_neg h2, if_neg h2, if_pos rfl, e2, Bool.true_or]
    obtain ⟨k, rfl⟩ : ∃ q, k = q + 1 := ⟨k - 1, by omega⟩
    rw [reedpenref04_First.f, firN]
    by_cases h1 : x.f0 = 1
    · rw [if_pos h1]
      have : x.f2 = [] := by
        unfold shp at s1
        simp [h1] at s1
        exact s1.2
      rw [this]; rfl
    · rw [if_neg h1, show (0 : Int) = ((0 : Nat) : Int) from rfl]
      have hz := l0 x.f2.length 0 k ((0 : Nat) : Int) (by omega) (by omega)
      rw [hz, List.take_zero, List.drop_zero, List.all_nil, Bool.or_true, firO_firL]
      have : x.f1 = 0 := by
        unfold shp at s1
        rcases shp_kinds (show shp x = true from s1) with h | h | h | h | h | h <;> simp [h] at s1
        · exact s1.1
        · exact (h1 h).elim
        · exact s1.1
        · exact s1.1
        · exact s1.1
        · exact s1.1
      rw [this]; rfl

theorem rfirst_calls (n : Nat) (x : S25) (A : Option Addr) (c : Nat) (v : Int) (w : World) (hS : Sm n x) (hs : shN n x = true) (hC : Kd.C k25 w A x.f2.length x.f2) (hc : x.f2.length ≤ c) (hv : firN n x = v) :
    Calls Try.prog 20 #[.agg #[.int .u8 x.f0, .int .u16 x.f1, .slice A x.f2.length c]] w fun e w' => e = .returned (.int .u16 v) ∧ Below w.heap.size w w' :=
  reedpenref04_First.calls (15000 * n) x.f0 x.f1 A c x.f2 v w hC hc ((rfirst_f n x hS hs _ (Nat.le_refl _)).trans (congrArg some hv))
end Go.Proofs.Ytbhkjaiaglkgjaa
