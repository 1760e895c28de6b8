/- Ends' functions of fuel answer, place for place, where the words of an expression end. Conditions: no node has more than 120 kids, the tree is at most n deep and its nodes may be, the word has at most 30 letters. -/
import Derived.Test.YtbhkjaiaglkgjaaEndsPlain
namespace Go.Proofs.Ytbhkjaiaglkgjaa
open Go.RowKit PRegexTells Go.Proofs.YtbhkjaiaglkgjaaW.PrintWords

theorem rdw (w : List Int) (i : Nat) : rd w (i : Int) = w.getD i 0 := by unfold rd; rw [Int.toNat_natCast]
theorem getD_set (l : List Bool) (i m : Nat) (v : Bool) (h : i < l.length) : (l.set i v).getD m false = if i = m then v else l.getD m false := by
  rw [List.getD_eq_getElem?_getD, List.getD_eq_getElem?_getD]
  by_cases e : i = m
  · subst e; rw [List.getElem?_set_self h, if_pos rfl]; rfl
  · rw [List.getElem?_set_ne e, if_neg e]
/-- All places at which a word that begins at one of f ends. -/
def Cl (N : Nat) (R : Nat → Nat → Prop) (f o : List Bool) : Prop := ∀ m, m ≤ N → (o.getD m false = true ↔ ∃ i, i ≤ N ∧ f.getD i false = true ∧ R i m)
/-- The call of Ends answers, with B fuel and more. -/
def EndsOk (w : List Int) (R : Nat → Nat → Prop) (x : S25) (B : Nat) : Prop := ∀ (k : Nat) (f : List Bool), B ≤ k → f.length = w.length + 1 → ∃ o, rEnds.f k x.f0 x.f1 x.f2 w f = some o ∧ o.length = w.length + 1 ∧ Cl w.length R f o

theorem ends_l1 (w : List Int) (hw : w.length ≤ 30) (a b : Int) (l : List S25) (f : List Bool) (hf : f.length = w.length + 1) : ∀ (j i k : Nat) (o : List Bool), i + j = w.length → o.length = w.length + 1 → j + 1 ≤ k → ∃ o', rEnds.l1 k w f o (i : Int) a b l = some o' ∧ o'.length = w.length + 1 ∧ ∀ m, o'.getD m false = true ↔ (o.getD m false = true ∨ ∃ p, i ≤ p ∧ m = p + 1 ∧ p < w.length ∧ f.getD p false = true ∧ okc (w.getD p 0) b) := by
  intro j
  induction j with
  | zero =>
    intro i k o hi ho hk
    obtain ⟨k, rfl⟩ : ∃ q, k = q + 1 := ⟨k - 1, by omega⟩
    refine ⟨o, by rw [rEnds.l1, if_neg (by omega)], ho, fun m => ⟨Or.inl, ?_⟩⟩
    rintro (h | ⟨p, h1, _, h2, _⟩)
    · exact h
    · omega
  | succ j ih =>
    intro i k o hi ho hk
    obtain ⟨k, rfl⟩ : ∃ q, k = q + 1 := ⟨k - 1, by omega⟩
    have skip : ¬ (f.getD i false = true ∧ okc (w.getD i 0) b) → ∃ o', rEnds.l1 k w f o ((i + 1 : Nat) : Int) a b l = some o' ∧ o'.length = w.length + 1 ∧ ∀ m, o'.getD m false = true ↔ (o.getD m false = true ∨ ∃ p, i ≤ p ∧ m = p + 1 ∧ p < w.length ∧ f.getD p false = true ∧ okc (w.getD p 0) b) := by
      intro hn
      obtain ⟨o', e1, e2, e3⟩ := ih (i + 1) k o (by omega) ho (by omega)
      refine ⟨o', e1, e2, fun m => ?_⟩
      rw [e3 m]
      constructor
      · rintro (h | ⟨p, h1, h2⟩)
        · exact Or.inl h
        · exact Or.inr ⟨p, by omega, h2⟩
      · rintro (h | ⟨p, h1, h2, h3, h4⟩)
        · exact Or.inl h
        · by_cases hp : p = i
          · subst hp; exact (hn h4).elim
          · exact Or.inr ⟨p, by omega, h2, h3, h4⟩
    rw [rEnds.l1, if_pos (by omega), if_pos (by omega), if_pos (by omega), wS i (by omega), rdb, rdw]
    by_cases g1 : f.getD i false = true
    · rw [if_pos g1]
      by_cases g2 : w.getD i 0 ≥ 0
      · rw [if_pos g2]
        by_cases g3 : w.getD i 0 < 16
        · rw [if_pos g3, if_pos (by rw [show IntKind.u64.wrap (w.getD i 0) = (w.getD i 0) % 18446744073709551616 from rfl]; omega)]
          by_cases g4 : Go.bits .and .u16 (shr .u16 b (IntKind.u64.wrap (w.getD i 0))) 1 = 1
          · rw [if_pos g4, if_pos (by omega), if_pos (by omega)]
            obtain ⟨o', e1, e2, e3⟩ := ih (i + 1) k (o.set (i + 1) true) (by omega) (by simp; omega) (by omega)
            refine ⟨o', e1, e2, fun m => ?_⟩
            rw [e3 m, getD_set _ _ _ _ (by omega)]
            constructor
            · rintro (h | ⟨p, h1, h2⟩)
              · by_cases hm : i + 1 = m
                · exact Or.inr ⟨i, Nat.le_refl _, hm.symm, by omega, g1, g2, g3, g4⟩
                · rw [if_neg hm] at h; exact Or.inl h
              · exact Or.inr ⟨p, by omega, h2⟩
            · rintro (h | ⟨p, h1, h2, h3, h4⟩)
              · left; split
                · rfl
                · exact h
              · by_cases hp : p = i
                · subst hp; left; rw [if_pos h2.symm]
                · exact Or.inr ⟨p, by omega, h2, h3, h4⟩
          · rw [if_neg g4]; exact skip fun h => g4 h.2.2.2
        · rw [if_neg g3]; exact skip fun h => g3 h.2.2.1
      · rw [if_neg g2]; exact skip fun h => g2 h.2.1
    · rw [if_neg g1]; exact skip fun h => g1 h.1

theorem ends_l3 (w : List Int) (R : S25 → Nat → Nat → Prop) (hR : ∀ y i m, R y i m → i ≤ w.length → i ≤ m ∧ m ≤ w.length) (B : Nat) (a b : Int) (l : List S25) (hl : l.length ≤ 120) (hk : ∀ y ∈ l, EndsOk w (R y) y B) : ∀ (j c k : Nat) (o : List Bool), c + j = l.length → o.length = w.length + 1 → B + j + 1 ≤ k → ∃ o', rEnds.l3 k w o (c : Int) a b l = some o' ∧ o'.length = w.length + 1 ∧ Cl w.length (SeqR R (l.drop c)) o o' := by
  intro j
  induction j with
  | zero =>
    intro c k o hi ho hk
    obtain ⟨k, rfl⟩ : ∃ q, k = q + 1 := ⟨k - 1, by omega⟩
    refine ⟨o, by rw [rEnds.l3, if_neg (by omega)], ho, fun m hm => ?_⟩
    rw [List.drop_eq_nil_of_le (by omega)]
    exact ⟨fun h => ⟨m, hm, h, rfl⟩, fun ⟨i, _, h, e⟩ => by obtain rfl : i = m := e; exact h⟩
  | succ j ih =>
    intro c k o hi ho hk'
    obtain ⟨k, rfl⟩ : ∃ q, k = q + 1 := ⟨k - 1, by omega⟩
    obtain ⟨t, t1, t2, t3⟩ := hk _ (rd_mem l c (by omega)) k o (by omega) ho
    obtain ⟨o', e1, e2, e3⟩ := ih (c + 1) k t (by omega) t2 (by omega)
    refine ⟨o', by rw [rEnds.l3, if_pos (by omega), if_pos (by omega), t1, Option.bind_some, wS c (by omega), e1], e2, fun m hm => ?_⟩
    rw [e3 m hm, rd_drop l c (by omega)]
    constructor
    · rintro ⟨i, h1, h2, h3⟩
      obtain ⟨q, g1, g2, g3⟩ := (t3 i h1).1 h2
      exact ⟨q, g1, g2, i, g3, h3⟩
    · rintro ⟨q, g1, g2, i, g3, h3⟩
      have h1 := (hR _ _ _ g3 g1).2
      exact ⟨i, h1, (t3 i h1).2 ⟨q, g1, g2, g3⟩, h3⟩

theorem or_at {N : Nat} {o t : List Bool} (h1 : o.length = N) (h2 : t.length = N) (m : Nat) : (orL o t).getD m false = true ↔ o.getD m false = true ∨ t.getD m false = true := by
  rw [orL_at o t (by omega), Bool.or_eq_true]
theorem ends_l4 (w : List Int) (hw : w.length ≤ 30) (R : S25 → Nat → Nat → Prop) (B : Nat) (a b : Int) (l : List S25) (hl : l.length ≤ 120) (hk : ∀ y ∈ l, EndsOk w (R y) y B) (f : List Bool) (hf : f.length = w.length + 1) : ∀ (j c k : Nat) (o : List Bool), c + j = l.length → o.length = w.length + 1 → B + (w.length + 3) * j + 1 ≤ k → ∃ o', rEnds.l4 k w f o (c : Int) a b l = some o' ∧ o'.length = w.length + 1 ∧ ∀ m, m ≤ w.length → (o'.getD m false = true ↔ (o.getD m false = true ∨ ∃ y ∈ l.drop c, ∃ i, i ≤ w.length ∧ f.getD i false = true ∧ R y i m)) := by
  intro j
  induction j with
  | zero =>
    intro c k o hi ho hk
    obtain ⟨k, rfl⟩ : ∃ q, k = q + 1 := ⟨k - 1, by omega⟩
    refine ⟨o, by rw [rEnds.l4, if_neg (by omega)], ho, fun m hm => ?_⟩
    rw [List.drop_eq_nil_of_le (by omega)]
    simp
  | succ j ih =>
    intro c k o hi ho hk'
    rw [Nat.mul_succ] at hk'
    obtain ⟨k, rfl⟩ : ∃ q, k = q + (w.length + 1) + 1 + 1 := ⟨k - (w.length + 3), by omega⟩
    obtain ⟨t, t1, t2, t3⟩ := hk _ (rd_mem l c (by omega)) (k + (w.length + 1) + 1) f (by omega) hf
    obtain ⟨o', e1, e2, e3⟩ := ih (c + 1) k (orL o t) (by omega) (by rw [orL_len _ _ (by omega)]; exact ho) (by omega)
    have hz := ends_l5 w f c (by omega) a b l t (w.length + 1) 0 k o (by omega) (by omega) (by omega)
    rw [List.take_zero, List.drop_zero, List.drop_zero, List.nil_append] at hz
    refine ⟨o', by rw [rEnds.l4, if_pos (by omega), if_pos (by omega), t1, Option.bind_some]; exact hz.trans e1, e2, fun m hm => ?_⟩
    rw [e3 m hm, rd_drop l c (by omega), or_at ho t2, t3 m hm]
    constructor
    · rintro ((h | h) | ⟨y, h1, h2⟩)
      · exact Or.inl h
      · exact Or.inr ⟨_, List.mem_cons_self, h⟩
      · exact Or.inr ⟨y, List.mem_cons_of_mem _ h1, h2⟩
    · rintro (h | ⟨y, h1, h2⟩)
      · exact Or.inl (Or.inl h)
      · rcases List.mem_cons.1 h1 with rfl | h1
        · exact Or.inl (Or.inr h2)
        · exact Or.inr ⟨y, h1, h2⟩

theorem ends_l7 (w : List Int) (hw : w.length ≤ 30) (R : Nat → Nat → Prop) (hR : ∀ i m, R i m → i ≤ w.length → i ≤ m ∧ m ≤ w.length) (B : Nat) (b : Int) (y : S25) (hk : EndsOk w R y B) : ∀ (d r k : Nat) (o : List Bool), r + d = w.length + 1 → o.length = w.length + 1 → r ≤ cntT o → B + (w.length + 3) * d + 1 ≤ k → ∃ o', rEnds.l7 k w o (r : Int) 4 b [y] = some o' ∧ o'.length = w.length + 1 ∧ Cl w.length (StarR R) o o' := by
  intro d
  induction d with
  | zero =>
    intro r k o hi ho hr hk
    obtain ⟨k, rfl⟩ : ∃ q, k = q + 1 := ⟨k - 1, by omega⟩
    refine ⟨o, by rw [rEnds.l7, if_neg (by omega)], ho, fun m hm => ?_⟩
    have hfull := cntT_full o (by omega)
    exact ⟨fun h => ⟨m, hm, h, .refl m⟩, fun _ => hfull m (by omega)⟩
  | succ d ih =>
    intro r k o hi ho hr hk'
    rw [Nat.mul_succ] at hk'
    obtain ⟨k, rfl⟩ : ∃ q, k = q + (w.length + 1) + 1 + 1 := ⟨k - (w.length + 3), by omega⟩
    obtain ⟨t, t1, t2, t3⟩ := hk (k + (w.length + 1) + 1) o (by omega) ho
    have hz := ends_l8 w r (by omega) 4 b [y] t (w.length + 1) 0 k o false (by omega) (by omega) (by omega)
    rw [List.take_zero, List.drop_zero, List.drop_zero, List.nil_append, if_neg (by decide), Bool.false_or] at hz
    have hol : (orL o t).length = w.length + 1 := by rw [orL_len _ _ (by omega)]; exact ho
    have hcnt := cntT_or o t (by omega)
    have el : rEnds.l7 (k + (w.length + 1) + 1 + 1) w o (r : Int) 4 b [y] = rEnds.l8 (k + (w.length + 1) + 1) w o (r : Int) t false 0 4 b [y] := by
      rw [rEnds.l7, if_pos (by omega), if_pos (by simp)]
      show (rEnds.f (k + (w.length + 1) + 1) y.f0 y.f1 y.f2 w o).bind _ = _
      rw [t1, Option.bind_some]
    rw [el]
    cases hn : newL o t with
    | false =>
      rw [hn, if_neg (by simp)] at hz
      refine ⟨orL o t, hz, hol, fun m hm => ?_⟩
      have hc := newL_false o t (by omega) hn
      rw [or_at ho t2]
      have star : ∀ i m, StarR R i m → i ≤ w.length → o.getD i false = true → o.getD m false = true ∧ m ≤ w.length := by
        intro i m h
        induction h with
        | refl => exact fun h1 h2 => ⟨h2, h1⟩
        | @step q j _ hr ih2 =>
          intro h1 h2
          obtain ⟨g1, g2⟩ := ih2 h1 h2
          have h3 := (hR _ _ hr g2).2
          exact ⟨hc _ ((t3 j h3).2 ⟨q, g2, g1, hr⟩), h3⟩
      constructor
      · rintro (h | h)
        · exact ⟨m, hm, h, .refl m⟩
        · exact ⟨m, hm, hc m h, .refl m⟩
      · rintro ⟨i, h1, h2, h3⟩
        exact Or.inl (star i m h3 h1 h2).1
    | true =>
      rw [hn, if_pos rfl] at hz
      obtain ⟨o', e1, e2, e3⟩ := ih (r + 1) k (orL o t) (by omega) hol (by have := hcnt.2 hn; omega) (by omega)
      refine ⟨o', hz.trans e1, e2, fun m hm => ?_⟩
      rw [e3 m hm]
      constructor
      · rintro ⟨i, h1, h2, h3⟩
        rcases (or_at ho t2 i).1 h2 with h | h
        · exact ⟨i, h1, h, h3⟩
        · obtain ⟨q, g1, g2, g3⟩ := (t3 i h1).1 h
          exact ⟨q, g1, g2, StarR.head g3 h3⟩
      · rintro ⟨i, h1, h2, h3⟩
        exact ⟨i, h1, (or_at ho t2 i).2 (Or.inl h2), h3⟩

theorem ends_opt (w : List Int) (hw : w.length ≤ 30) (R : Nat → Nat → Prop) (B : Nat) (b : Int) (y : S25) (hk : EndsOk w R y B) (k : Nat) (o : List Bool) (ho : o.length = w.length + 1) (hk' : B + (w.length + 4) ≤ k) : ∃ o', rEnds.l7 k w o 0 5 b [y] = some o' ∧ o'.length = w.length + 1 ∧ Cl w.length (fun i m => i = m ∨ R i m) o o' := by
  obtain ⟨k, rfl⟩ : ∃ q, k = q + (w.length + 1) + 1 + 1 := ⟨k - (w.length + 3), by omega⟩
  obtain ⟨t, t1, t2, t3⟩ := hk (k + (w.length + 1) + 1) o (by omega) ho
  have hz := ends_l8 w 0 (by omega) 5 b [y] t (w.length + 1) 0 k o false (by omega) (by omega) (by omega)
  rw [List.take_zero, List.drop_zero, List.drop_zero, List.nil_append, if_pos rfl] at hz
  have hol : (orL o t).length = w.length + 1 := by rw [orL_len _ _ (by omega)]; exact ho
  refine ⟨orL o t, ?_, hol, fun m hm => ?_⟩
  · rw [rEnds.l7, if_pos (by omega), if_pos (by simp)]
    show (rEnds.f (k + (w.length + 1) + 1) y.f0 y.f1 y.f2 w o).bind _ = _
    rw [t1, Option.bind_some]
    exact hz
  · rw [or_at ho t2, t3 m hm]
    constructor
    · rintro (h | ⟨i, h1, h2, h3⟩)
      · exact ⟨m, hm, h, Or.inl rfl⟩
      · exact ⟨i, h1, h2, Or.inr h3⟩
    · rintro ⟨i, h1, h2, rfl | h3⟩
      · exact Or.inl h2
      · exact Or.inr ⟨i, h1, h2, h3⟩

theorem ends_main (w : List Int) (hw : w.length ≤ 30) (n : Nat) : ∀ x, Sm n x → shN n x = true → EndsOk w (M okc w n x) x (5000 * n) := by
  induction n with
  | zero => intro x h; exact h.elim
  | succ n ih =>
    intro x hx hs k f hk hf
    obtain ⟨s1, s2⟩ := shN_kid hs
    have hkid : ∀ y ∈ x.f2, EndsOk w (M okc w n y) y (5000 * n) := fun y hy => ih y (hx.2 y hy) (s2 y hy)
    have hR : ∀ y i m, M okc w n y i m → i ≤ w.length → i ≤ m ∧ m ≤ w.length := fun y i m => M_le okc w n y i m
    obtain ⟨k, rfl⟩ : ∃ q, k = q + 1 := ⟨k - 1, by omega⟩
    have hl := hx.len
    rw [rEnds.f, if_pos (by rw [wS _ (by omega)]; omega), if_pos (by rw [wS _ (by omega)]; omega), Option.bind_some, wS _ (by omega), Int.toNat_natCast]
    have hrl : (List.replicate (w.length + 1) false).length = w.length + 1 := by simp
    have hrf : ∀ m, (List.replicate (w.length + 1) false).getD m false = false := fun m => by
      rw [List.getD_eq_getElem?_getD, List.getElem?_replicate]; split <;> rfl
    rcases shp_kinds s1 with h | h | h | h | h | h
    · rw [if_pos h]
      refine ⟨f, ?_, hf, fun m hm => ?_⟩
      · have := ends_l0 f (w.length + 1) 0 k (List.replicate (w.length + 1) false) (by omega) (by omega) (by omega) (by omega)
        rw [List.take_zero, List.drop_zero, List.nil_append] at this
        exact this
      · constructor
        · intro g; exact ⟨m, hm, g, (M_nil h).2 rfl⟩
        · rintro ⟨i, h1, h2, h3⟩
          obtain rfl := (M_nil h).1 h3
          exact h2
    · rw [h, if_neg (by decide), if_pos rfl]
      obtain ⟨o', e1, e2, e3⟩ := ends_l1 w hw 1 x.f1 x.f2 f hf w.length 0 k (List.replicate (w.length + 1) false) (by omega) hrl (by omega)
      refine ⟨o', e1, e2, fun m hm => ?_⟩
      rw [e3 m, hrf m]
      constructor
      · rintro (g | ⟨p, g1, g2, g3, g4, g5⟩)
        · simp at g
        · exact ⟨p, by omega, g4, (M_set h).2 ⟨g2, g3, g5⟩⟩
      · rintro ⟨p, g1, g2, g3⟩
        obtain ⟨a1, a2, a3⟩ := (M_set h).1 g3
        exact Or.inr ⟨p, by omega, a1, a2, g2, a3⟩
    · rw [h, if_neg (by decide), if_neg (by decide), if_pos rfl]
      obtain ⟨k, rfl⟩ : ∃ q, k = q + (w.length + 1) + 1 := ⟨k - (w.length + 2), by omega⟩
      have hz := ends_l2 w 2 x.f1 x.f2 f (w.length + 1) 0 k (List.replicate (w.length + 1) false) (by omega) (by omega) (by omega)
      rw [List.take_zero, List.drop_zero, List.nil_append] at hz
      obtain ⟨o', e1, e2, e3⟩ := ends_l3 w (M okc w n) hR (5000 * n) 2 x.f1 x.f2 hl hkid x.f2.length 0 k f (by omega) hf (by omega)
      refine ⟨o', hz.trans e1, e2, fun m hm => ?_⟩
      rw [e3 m hm, List.drop_zero]
      exact ⟨fun ⟨i, a, b, c⟩ => ⟨i, a, b, (M_cat h).2 c⟩, fun ⟨i, a, b, c⟩ => ⟨i, a, b, (M_cat h).1 c⟩⟩
    · rw [h, if_neg (by decide), if_neg (by decide), if_neg (by decide), if_pos rfl]
      obtain ⟨o', e1, e2, e3⟩ := ends_l4 w hw (M okc w n) (5000 * n) 3 x.f1 x.f2 hl hkid f hf x.f2.length 0 k (List.replicate (w.length + 1) false) (by omega) hrl (by
        have : (w.length + 3) * x.f2.length ≤ 33 * 120 := Nat.mul_le_mul (by omega) hl
        omega)
      refine ⟨o', e1, e2, fun m hm => ?_⟩
      rw [e3 m hm, hrf m, List.drop_zero]
      constructor
      · rintro (g | ⟨y, g1, i, g2, g3, g4⟩)
        · simp at g
        · exact ⟨i, g2, g3, (M_alt h).2 ⟨y, g1, g4⟩⟩
      · rintro ⟨i, g2, g3, g4⟩
        obtain ⟨y, a, b⟩ := (M_alt h).1 g4
        exact Or.inr ⟨y, a, i, g2, g3, b⟩
    · obtain ⟨y, hy⟩ := one_kid s1 (Or.inl h)
      have hyk := hkid y (by rw [hy]; simp)
      rw [h, hy, if_neg (by decide), if_neg (by decide), if_neg (by decide), if_neg (by decide), if_pos rfl]
      obtain ⟨k, rfl⟩ : ∃ q, k = q + (w.length + 1) + 1 + 1 := ⟨k - (w.length + 3), by omega⟩
      rw [rEnds.j6, if_pos (by rfl)]
      have hz := ends_l6 w 4 x.f1 [y] f (w.length + 1) 0 k (List.replicate (w.length + 1) false) (by omega) (by omega) (by omega)
      rw [List.take_zero, List.drop_zero, List.nil_append] at hz
      obtain ⟨o', e1, e2, e3⟩ := ends_l7 w hw (M okc w n y) (hR y) (5000 * n) x.f1 y hyk (w.length + 1) 0 k f (by omega) hf (by omega) (by
        have : (w.length + 3) * (w.length + 1) ≤ 33 * 31 := Nat.mul_le_mul (by omega) (by omega)
        omega)
      refine ⟨o', hz.trans e1, e2, fun m hm => ?_⟩
      rw [e3 m hm]
      constructor
      · rintro ⟨i, a, b, c⟩; exact ⟨i, a, b, (M_star h).2 ⟨y, by rw [hy]; rfl, c⟩⟩
      · rintro ⟨i, a, b, c⟩
        obtain ⟨y', g1, g2⟩ := (M_star h).1 c
        rw [hy] at g1
        obtain rfl : y = y' := by simpa using g1
        exact ⟨i, a, b, g2⟩
    · obtain ⟨y, hy⟩ := one_kid s1 (Or.inr h)
      have hyk := hkid y (by rw [hy]; simp)
      rw [h, hy, if_neg (by decide), if_neg (by decide), if_neg (by decide), if_neg (by decide), if_neg (by decide)]
      obtain ⟨k, rfl⟩ : ∃ q, k = q + (w.length + 1) + 1 + 1 := ⟨k - (w.length + 3), by omega⟩
      rw [rEnds.j6, if_pos (by rfl)]
      have hz := ends_l6 w 5 x.f1 [y] f (w.length + 1) 0 k (List.replicate (w.length + 1) false) (by omega) (by omega) (by omega)
      rw [List.take_zero, List.drop_zero, List.nil_append] at hz
      obtain ⟨o', e1, e2, e3⟩ := ends_opt w hw (M okc w n y) (5000 * n) x.f1 y hyk k f hf (by omega)
      refine ⟨o', hz.trans e1, e2, fun m hm => ?_⟩
      rw [e3 m hm]
      constructor
      · rintro ⟨i, a, b, rfl | c⟩
        · exact ⟨i, a, b, (M_opt h).2 (Or.inl rfl)⟩
        · exact ⟨i, a, b, (M_opt h).2 (Or.inr ⟨y, by rw [hy]; rfl, c⟩)⟩
      · rintro ⟨i, a, b, c⟩
        rcases (M_opt h).1 c with rfl | ⟨y', g1, g2⟩
        · exact ⟨i, a, b, Or.inl rfl⟩
        · rw [hy] at g1
          obtain rfl : y = y' := by simpa using g1
          exact ⟨i, a, b, Or.inr g2⟩
end Go.Proofs.Ytbhkjaiaglkgjaa
