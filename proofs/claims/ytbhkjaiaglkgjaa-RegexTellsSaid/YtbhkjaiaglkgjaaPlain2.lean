/- Whether an expression may be, its nodes and its depth: what is counted is what is defined, in plain Lean. Condition: no node has more than 120 kids, and the tree is at most n deep. -/
import Derived.Test.YtbhkjaiaglkgjaaShapes
namespace Go.Proofs.Ytbhkjaiaglkgjaa
open Go.RowKit PRegexTells

theorem cnt_spec (d : Nat) : ∀ (n : Nat) (x : S25) (L : Int), 0 ≤ L → Sm n x → ((cnt d x L).1 = true ↔ depN n x ≤ d ∧ (nodN n x : Int) ≤ L ∧ shN n x = true) ∧ ((cnt d x L).1 = true → (cnt d x L).2 = L - nodN n x) := by
  induction d with
  | zero =>
    intro n x L hL hS
    cases n with
    | zero => exact hS.elim
    | succ n => simp [cnt, depN]
  | succ d ih =>
    intro n x L hL hS
    cases n with
    | zero => exact hS.elim
    | succ n =>
      have kids : ∀ (l : List S25), (∀ k ∈ l, Sm n k) → ∀ (L : Int), 0 ≤ L → ((kidsC (cnt d) l L).1 = true ↔ maxL (l.map (depN n)) ≤ d ∧ (sumL (l.map (nodN n)) : Int) ≤ L ∧ l.all (shN n) = true) ∧ ((kidsC (cnt d) l L).1 = true → (kidsC (cnt d) l L).2 = L - sumL (l.map (nodN n))) := by
        intro l
        induction l with
        | nil => intro _ L h; simp [kidsC, maxL, sumL]; exact h
        | cons k r ihr =>
          intro hs L h
          obtain ⟨h1, h2⟩ := ih n k L h (hs k (by simp))
          have h3 := (cnt_left d k L h).2
          rw [kidsC, List.map_cons, List.map_cons, maxL, sumL, List.all_cons]
          by_cases hk : (cnt d k L).1 = true
          · rw [if_pos hk, h2 hk]
            obtain ⟨g1, g2, g3⟩ := h1.1 hk
            obtain ⟨h4, h5⟩ := ihr (fun z hz => hs z (by simp [hz])) (L - nodN n k) (by omega)
            refine ⟨?_, fun hh => ?_⟩
            · rw [h4]
              constructor
              · rintro ⟨a, b, c⟩; exact ⟨by omega, by push_cast; omega, by simp [g3, c]⟩
              · rintro ⟨a, b, c⟩; exact ⟨by omega, by push_cast at b; omega, by simpa [g3] using c⟩
            · rw [h5 hh]; push_cast; omega
          · rw [if_neg hk]
            refine ⟨⟨fun hh => by simp at hh, fun hh => ?_⟩, fun hh => by simp at hh⟩
            exfalso
            apply hk
            rw [h1]
            obtain ⟨a, b, c⟩ := hh
            rw [Bool.and_eq_true] at c
            exact ⟨by omega, by push_cast at b; omega, c.1⟩
      rw [cnt, depN, nodN, shN]
      by_cases hc : L - 1 < 0 ∨ shp x = false
      · rw [if_pos hc]
        refine ⟨⟨fun hh => by simp at hh, fun hh => ?_⟩, fun hh => by simp at hh⟩
        obtain ⟨a, b, c⟩ := hh
        rw [Bool.and_eq_true] at c
        rcases hc with hc | hc
        · push_cast at b; omega
        · rw [hc] at c; simp at c
      · rw [if_neg hc]
        obtain ⟨c1, c2⟩ := not_or.1 hc
        obtain ⟨h4, h5⟩ := kids x.f2 hS.2 (L - 1) (by omega)
        have c3 : shp x = true := by simpa using c2
        refine ⟨?_, fun hh => ?_⟩
        · rw [h4, c3]
          constructor
          · rintro ⟨a, b, c⟩; exact ⟨by omega, by push_cast; omega, by simp [c]⟩
          · rintro ⟨a, b, c⟩; exact ⟨by omega, by push_cast at b; omega, by simpa using c⟩
        · rw [h5 hh]; push_cast; omega

/-- The reference's Right. -/
def RR (n : Nat) (x : S25) : Bool := decide (rdD 12 x ≤ 12) && decide (rnN n x ≤ 100) && shN n x
theorem rr_iff (n : Nat) (hn : n ≤ 1000) (x : S25) (hS : Sm n x) : RR n x = true ↔ depN n x ≤ 12 ∧ nodN n x ≤ 100 ∧ shN n x = true := by
  obtain ⟨_, _, h1, h2⟩ := rn_spec n hn x hS
  have h3 := rdD_min n x 12 hS
  unfold RR
  rw [Bool.and_eq_true, Bool.and_eq_true, decide_eq_true_iff, decide_eq_true_iff]
  constructor
  · rintro ⟨⟨a, b⟩, c⟩; exact ⟨by omega, by have := h2 b; omega, c⟩
  · rintro ⟨a, b, c⟩; exact ⟨⟨by omega, by have := h1 b; omega⟩, c⟩
theorem cnt_rr (n : Nat) (hn : n ≤ 1000) (x : S25) (hS : Sm n x) : (cnt 12 x 100).1 = RR n x := by
  have h1 := (cnt_spec 12 n x 100 (by decide) hS).1
  have h2 := rr_iff n hn x hS
  rw [Bool.eq_iff_iff, h1, h2]
  constructor
  · rintro ⟨a, b, c⟩; exact ⟨a, by omega, c⟩
  · rintro ⟨a, b, c⟩; exact ⟨a, by omega, c⟩
theorem wlk_nodes (n : Nat) : ∀ (x : S25) (deep s : Int), Sm n x → 0 ≤ s → s + nodN n x ≤ 1000 → wlk see28 n x deep s = s + nodN n x := by
  induction n with
  | zero => intro x deep s h; exact h.elim
  | succ n ih =>
    intro x deep s hS h0 h1
    have kids : ∀ (l : List S25), (∀ k ∈ l, Sm n k) → ∀ (s : Int), 0 ≤ s → s + sumL (l.map (nodN n)) ≤ 1000 → l.foldl (fun s k => wlk see28 n k (deep + 1) s) s = s + sumL (l.map (nodN n)) := by
      intro l
      induction l with
      | nil => intro _ s _ _; simp [sumL]
      | cons k r ihr =>
        intro hs s h0 h1
        rw [List.map_cons, sumL] at h1 ⊢
        push_cast at h1 ⊢
        rw [List.foldl_cons, ih k (deep + 1) s (hs k (by simp)) h0 (by omega), ihr (fun z hz => hs z (by simp [hz])) _ (by omega) (by omega)]
        omega
    rw [wlk, nodN]
    rw [nodN] at h1
    push_cast at h1 ⊢
    rw [show see28 s deep = s + 1 from w64 (by omega) (by omega), kids x.f2 hS.2 (s + 1) (by omega) (by omega)]
    omega
theorem wlk_deep (n : Nat) : ∀ (x : S25) (deep s : Int), Sm n x → wlk see29 n x deep s = max s (deep + depN n x - 1) := by
  induction n with
  | zero => intro x deep s h; exact h.elim
  | succ n ih =>
    intro x deep s hS
    have kids : ∀ (l : List S25), (∀ k ∈ l, Sm n k) → ∀ (s : Int), deep ≤ s → l.foldl (fun s k => wlk see29 n k (deep + 1) s) s = max s (deep + maxL (l.map (depN n))) := by
      intro l
      induction l with
      | nil => intro _ s h; simp [maxL]; omega
      | cons k r ihr =>
        intro hs s h
        rw [List.map_cons, maxL, List.foldl_cons, ih k (deep + 1) s (hs k (by simp)), ihr (fun z hz => hs z (by simp [hz])) _ (by omega)]
        push_cast
        omega
    rw [wlk, depN, kids x.f2 hS.2 _ (by unfold see29; split <;> omega)]
    push_cast
    unfold see29
    split <;> omega
theorem nodes_eq (n : Nat) (hn : n ≤ 1000) (x : S25) (hS : Sm n x) (hr : RR n x = true) : wlk see28 n x 1 0 = rnN n x := by
  obtain ⟨_, h2, _⟩ := (rr_iff n hn x hS).1 hr
  rw [wlk_nodes n x 1 0 hS (by decide) (by omega), (rn_spec n hn x hS).2.2.1 h2]
  omega
theorem deep_eq (n : Nat) (hn : n ≤ 1000) (x : S25) (hS : Sm n x) (hr : RR n x = true) : wlk see29 n x 1 0 = (rdD 12 x : Int) := by
  obtain ⟨h1, _, _⟩ := (rr_iff n hn x hS).1 hr
  rw [wlk_deep n x 1 0 hS, rdD_min n x 12 hS]
  omega
end Go.Proofs.Ytbhkjaiaglkgjaa
