/- What the call of Has answers: has an expression a word. Conditions: no node has more than 120 kids, the tree is at most n deep and its nodes may be, the word has at most 30 letters. -/
import Derived.Test.YtbhkjaiaglkgjaaHas
import Derived.Test.YtbhkjaiaglkgjaaEndsPlain2
namespace Go.Proofs.Ytbhkjaiaglkgjaa
open Go.RowKit PRegexTells Go.Proofs.YtbhkjaiaglkgjaaW.PrintWords

theorem has_f (n : Nat) (x : S25) (hS : Sm n x) (hs : shN n x = true) (w : List Int) (hw : w.length ≤ 30) (r : Bool) (hr : r = true ↔ M okc w n x 0 w.length) (k : Nat) (hk : 5000 * n ≤ k) : reedpenref04_Has.f k x.f0 x.f1 x.f2 w = some r := by
  have hf : ((List.replicate (w.length + 1) false).set 0 true).length = w.length + 1 := by simp
  have hg : ∀ m, ((List.replicate (w.length + 1) false).set 0 true).getD m false = true ↔ m = 0 := fun m => by
    rw [getD_set _ _ _ _ (by simp), List.getD_eq_getElem?_getD, List.getElem?_replicate]
    by_cases h : 0 = m
    · rw [if_pos h]; exact ⟨fun _ => h.symm, fun _ => rfl⟩
    · rw [if_neg h]
      constructor
      · intro g; split at g <;> simp at g
      · intro g; exact (h g.symm).elim
  obtain ⟨o, e1, e2, e3⟩ := ends_main w hw n x hS hs k _ hk hf
  have e4 := e3 w.length (Nat.le_refl _)
  have e5 : o.getD w.length false = r := by
    rw [Bool.eq_iff_iff, hr, e4]
    constructor
    · rintro ⟨i, h1, h2, h3⟩
      obtain rfl := (hg i).1 h2
      exact h3
    · intro h; exact ⟨0, by omega, (hg 0).2 rfl, h⟩
  rw [reedpenref04_Has.f, wS _ (by omega), if_pos (by omega), if_pos (by omega), Option.bind_some, Int.toNat_natCast, if_pos (by simp), show ((0 : Int)).toNat = 0 from rfl, e1, Option.bind_some, if_pos (by omega), if_pos (by omega), rdb, e5]

theorem has_calls (n : Nat) (x : S25) (A : Option Addr) (c : Nat) (A1 : Option Addr) (c1 : Nat) (word : List Int) (r : Bool) (w : World) (hS : Sm n x) (hs : shN n x = true) (hw : word.length ≤ 30) (hC : Kd.C k25 w A x.f2.length x.f2) (hc : x.f2.length ≤ c) (hr1 : Kd.C (Kd.int .i64) w A1 word.length word) (hc1 : word.length ≤ c1) (hr : r = true ↔ M okc word n x 0 word.length) :
    Calls Try.prog 19 #[.agg #[.int .u8 x.f0, .int .u16 x.f1, .slice A x.f2.length c], .slice A1 word.length c1] w fun e w' => e = .returned (.bool r) ∧ Below w.heap.size w w' :=
  reedpenref04_Has.calls (5000 * n) x.f0 x.f1 A c x.f2 A1 c1 word r w hC hc hr1 hc1 (has_f n x hS hs word hw r hr _ (Nat.le_refl _))

/-- Whether x has the word: r. -/
def HasR (n : Nat) (x : S25) (word : List Int) (r : Bool) : Prop := r = true ↔ M okc word n x 0 word.length
theorem has_r (n : Nat) (x : S25) (A : Option Addr) (c : Nat) (A1 : Option Addr) (c1 : Nat) (word : List Int) (r : Bool) (w : World) (hS : Sm n x) (hs : shN n x = true) (hw : word.length ≤ 30) (hC : Kd.C k25 w A x.f2.length x.f2) (hc : x.f2.length ≤ c) (hr1 : Kd.C (Kd.int .i64) w A1 word.length word) (hc1 : word.length ≤ c1) (hr : HasR n x word r) :
    Calls Try.prog 19 #[.agg #[.int .u8 x.f0, .int .u16 x.f1, .slice A x.f2.length c], .slice A1 word.length c1] w fun e w' => e = .returned (.bool r) ∧ Below w.heap.size w w' :=
  has_calls n x A c A1 c1 word r w hS hs hw hC hc hr1 hc1 hr

end Go.Proofs.Ytbhkjaiaglkgjaa
