/- A set of categories that is joined to another has the categories of both. Condition: none. -/
import Derived.Test.YtbhkjaiaglkgjaaHasPlain
namespace Go.Proofs.Ytbhkjaiaglkgjaa
open Go.RowKit PRegexTells Go.Proofs.YtbhkjaiaglkgjaaW.PrintWords Go.Proofs.YtbhkjaiaglkgjaaW.PrintMore

theorem wu16 (n : Int) : IntKind.u16.wrap n = n % 65536 := rfl
theorem wu64 (n : Int) : IntKind.u64.wrap n = n % 18446744073709551616 := rfl
theorem and_one (v : Int) : Go.bits .and .u16 v 1 = v % 2 := by
  simp only [Go.bits, BitVec.toNat_and, BitVec.toNat_ofInt, wu16]
  rw [show (((1 : Int) % ((2 ^ IntKind.u16.bits : Nat) : Int)).toNat) = 1 from rfl, Nat.and_one_is_mod, show ((2 ^ IntKind.u16.bits : Nat) : Int) = 65536 from rfl]
  omega
theorem or_nat (a b : Int) : Go.bits .or .u16 a b = (((a % 65536).toNat ||| (b % 65536).toNat : Nat) : Int) := by
  simp only [Go.bits, BitVec.toNat_or, BitVec.toNat_ofInt, wu16]
  rw [show ((2 ^ IntKind.u16.bits : Nat) : Int) = 65536 from rfl]
  have : (a % 65536).toNat ||| (b % 65536).toNat < 2 ^ 16 := Nat.or_lt_two_pow (by omega) (by omega)
  omega
theorem okc_iff (c s : Int) : okc c s ↔ 0 ≤ c ∧ c < 16 ∧ ((s % 65536).toNat).testBit c.toNat = true := by
  unfold okc
  constructor
  · rintro ⟨h1, h2, h3⟩
    refine ⟨h1, h2, ?_⟩
    obtain ⟨m, rfl⟩ := Int.eq_ofNat_of_zero_le h1
    rw [and_one, wu64, shr, show ((m : Int) % 18446744073709551616) = (m : Int) by omega, Int.toNat_natCast, Nat.min_eq_left (by show m ≤ 16; omega)] at h3
    rw [Int.toNat_natCast, Nat.testBit_eq_decide_div_mod_eq, decide_eq_true_iff]
    have : m = 0 ∨ m = 1 ∨ m = 2 ∨ m = 3 ∨ m = 4 ∨ m = 5 ∨ m = 6 ∨ m = 7 ∨ m = 8 ∨ m = 9 ∨ m = 10 ∨ m = 11 ∨ m = 12 ∨ m = 13 ∨ m = 14 ∨ m = 15 := by omega
    rcases this with rfl | rfl | rfl | rfl | rfl | rfl | rfl | rfl | rfl | rfl | rfl | rfl | rfl | rfl | rfl | rfl <;> omega
  · rintro ⟨h1, h2, h3⟩
    refine ⟨h1, h2, ?_⟩
    obtain ⟨m, rfl⟩ := Int.eq_ofNat_of_zero_le h1
    rw [and_one, wu64, shr, show ((m : Int) % 18446744073709551616) = (m : Int) by omega, Int.toNat_natCast, Nat.min_eq_left (by show m ≤ 16; omega)]
    rw [Int.toNat_natCast, Nat.testBit_eq_decide_div_mod_eq, decide_eq_true_iff] at h3
    have : m = 0 ∨ m = 1 ∨ m = 2 ∨ m = 3 ∨ m = 4 ∨ m = 5 ∨ m = 6 ∨ m = 7 ∨ m = 8 ∨ m = 9 ∨ m = 10 ∨ m = 11 ∨ m = 12 ∨ m = 13 ∨ m = 14 ∨ m = 15 := by omega
    rcases this with rfl | rfl | rfl | rfl | rfl | rfl | rfl | rfl | rfl | rfl | rfl | rfl | rfl | rfl | rfl | rfl <;> omega
theorem okc_or (c a b : Int) : okc c (Go.bits .or .u16 a b) ↔ okc c a ∨ okc c b := by
  rw [okc_iff, okc_iff, okc_iff, or_nat]
  have : (a % 65536).toNat ||| (b % 65536).toNat < 2 ^ 16 := Nat.or_lt_two_pow (by omega) (by omega)
  rw [show ((((a % 65536).toNat ||| (b % 65536).toNat : Nat) : Int) % 65536).toNat = (a % 65536).toNat ||| (b % 65536).toNat by omega, Nat.testBit_or, Bool.or_eq_true]
  constructor
  · rintro ⟨h1, h2, h | h⟩
    · exact Or.inl ⟨h1, h2, h⟩
    · exact Or.inr ⟨h1, h2, h⟩
  · rintro (⟨h1, h2, h⟩ | ⟨h1, h2, h⟩)
    · exact ⟨h1, h2, Or.inl h⟩
    · exact ⟨h1, h2, Or.inr h⟩
/-- A word that x has begins with one of its first categories. -/
theorem first_ok (n : Nat) (x : S25) (hs : shN n x = true) (w : List Int) (hm : M okc w n x 0 w.length) (h : w.length ≠ 0) : okc (w.getD 0 0) (firN n x) :=
  M_first (fun c a b h => (okc_or c a b).2 (Or.inl h)) (fun c a b h => (okc_or c a b).2 (Or.inr h)) w n x 0 w.length (Nat.zero_le _) hs hm (by omega)
end Go.Proofs.Ytbhkjaiaglkgjaa
