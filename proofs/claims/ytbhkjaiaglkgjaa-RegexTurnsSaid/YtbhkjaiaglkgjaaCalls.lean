/- What the calls of the laws' functions answer (same, great), and what a call keeps. Condition: none but the contracts' own. -/
import Derived.Test.YtbhkjaiaglkgjaaAlive
import Derived.Deep.RegionHeld3
namespace Go.Proofs.Ytbhkjaiaglkgjaa
open Go.RowKit Go.Proofs.YtbhkjaiaglkgjaaW.PrintWords Go.Proofs.YtbhkjaiaglkgjaaW.PrintLast Go.Proofs.YtbhkjaiaglkgjaaW.PrintMore
open PRegexTells

theorem keep_calls {P : Program} {f : FuncId} {args : Array Value} {W w0 : World} {v : Value} (h : Calls P f args W fun e w' => e = .returned v ∧ Below W.heap.size W w') (hW : Below w0.heap.size w0 W) : Calls P f args W fun e w' => e = .returned v ∧ Below w0.heap.size w0 w' ∧ ∀ a u, W.cell? a = some u → w'.cell? a = some u :=
  h.mono fun _ _ h => ⟨h.1, below_in hW h.2, fun _ _ hc => cell_below hc h.2⟩
theorem cell_drew1 {w : World} {a : Addr} {v : Value} (h : w.cell? a = some v) : w.drew.cell? a = some v := h
theorem samN_refl (n : Nat) : ∀ x, samN n x x = true := by
  induction n with
  | zero => intro x; rfl
  | succ n ih =>
    have : ∀ l : List S25, samL (samN n) l l = true := by
      intro l
      induction l with
      | nil => rfl
      | cons y r ihr => rw [samL, ih y, ihr]; rfl
    intro x
    rw [samN, this]; simp
theorem great_calls (m : Nat) (hm : m ≤ 1000) (x : S25) (A : Option Addr) (c : Nat) (b : Bool) (w : World) (hC : Kd.C k25 w A x.f2.length x.f2) (hc : x.f2.length ≤ c) (hb : greN m x = b) :
    Calls Try.prog 9 #[.agg #[.int .u8 x.f0, .int .u16 x.f1, .slice A x.f2.length c], .int .i64 m] w fun e w' => e = .returned (.bool b) ∧ Below w.heap.size w w' :=
  reedpenref04_Great.calls (130 * m + 2) x.f0 x.f1 A c x.f2 m b w hC hc ((great_f m hm x _ (Nat.le_refl _)).trans (congrArg some hb))
theorem great13 (x : S25) (A : Option Addr) (c : Nat) (b : Bool) (w : World) (hC : Kd.C k25 w A x.f2.length x.f2) (hc : x.f2.length ≤ c) (hb : greN 13 x = b) :
    Calls Try.prog 9 #[.agg #[.int .u8 x.f0, .int .u16 x.f1, .slice A x.f2.length c], .int .i64 13] w fun e w' => e = .returned (.bool b) ∧ Below w.heap.size w w' :=
  great_calls 13 (by decide) x A c b w hC hc hb
theorem same_calls (n : Nat) (x y : S25) (A B : Option Addr) (c d : Nat) (b : Bool) (w : World) (hS : Sm n x) (hC : Kd.C k25 w A x.f2.length x.f2) (hc : x.f2.length ≤ c) (hC2 : Kd.C k25 w B y.f2.length y.f2) (hc2 : y.f2.length ≤ d) (hb : samN n x y = b) :
    Calls Try.prog 23 #[.agg #[.int .u8 x.f0, .int .u16 x.f1, .slice A x.f2.length c], .agg #[.int .u8 y.f0, .int .u16 y.f1, .slice B y.f2.length d]] w fun e w' => e = .returned (.bool b) ∧ Below w.heap.size w w' :=
  regex_Same.calls (130 * n) x.f0 x.f1 A c x.f2 y.f0 y.f1 B d y.f2 b w hC hc hC2 hc2 ((same_f n x y hS _ (Nat.le_refl _)).trans (congrArg some hb))
theorem rsame_calls (n m : Nat) (hm : n ≤ m) (hm2 : m ≤ 1000) (x y : S25) (A B : Option Addr) (c d : Nat) (b : Bool) (w : World) (hS : Sm n x) (hC : Kd.C k25 w A x.f2.length x.f2) (hc : x.f2.length ≤ c) (hC2 : Kd.C k25 w B y.f2.length y.f2) (hc2 : y.f2.length ≤ d) (hb : samN n x y = b) :
    Calls Try.prog 21 #[.agg #[.int .u8 x.f0, .int .u16 x.f1, .slice A x.f2.length c], .agg #[.int .u8 y.f0, .int .u16 y.f1, .slice B y.f2.length d], .int .i64 m] w fun e w' => e = .returned (.bool b) ∧ Below w.heap.size w w' :=
  reedpenref04_Same.calls (260 * n) x.f0 x.f1 A c x.f2 y.f0 y.f1 B d y.f2 m b w hC hc hC2 hc2 ((rsame_f n x y m hm hm2 hS _ (Nat.le_refl _)).trans (congrArg some hb))
theorem rsame14 (n : Nat) (hm : n ≤ 14) (x y : S25) (A B : Option Addr) (c d : Nat) (b : Bool) (w : World) (hS : Sm n x) (hC : Kd.C k25 w A x.f2.length x.f2) (hc : x.f2.length ≤ c) (hC2 : Kd.C k25 w B y.f2.length y.f2) (hc2 : y.f2.length ≤ d) (hb : samN n x y = b) :
    Calls Try.prog 21 #[.agg #[.int .u8 x.f0, .int .u16 x.f1, .slice A x.f2.length c], .agg #[.int .u8 y.f0, .int .u16 y.f1, .slice B y.f2.length d], .int .i64 14] w fun e w' => e = .returned (.bool b) ∧ Below w.heap.size w w' :=
  rsame_calls n 14 hm (by decide) x y A B c d b w hS hC hc hC2 hc2 hb
end Go.Proofs.Ytbhkjaiaglkgjaa
