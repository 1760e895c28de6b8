/-
  NARROWER THAN 'FOR EVERY INPUT', by the rows' own cells (each row's printed sentence says how): RegexRight: loops · RegexTells: loops · RegexSame: loops · RegexTurns: loops · RegexBegins: loops.
  DERIVED. THE GIVEN ROWS OF THIS SEAT. 5 by the template 'for every input the law returns true; each argument reads behind the call as it read before'; 0 by the template 'total and deterministic' (their statements: YtbhkjaiaglkgjaaTotals.lean).
  GIVEN WITH THE SEED: the statements are not yours to turn. If you find one false, say at which input.
  Laid BY PROGRAM, IN A SANDBOX (cutbox-rows.mjs): the forced cells as the released guide's own fill.sh prints them over the translation aef595acc60593b5… (all of the seat's roots in one cut). By AI agents, Wed Nov 11 2026. No macro, syntax, notation, axiom, sorry.
-/
import Derived.Test.YtbhkjaiaglkgjaaChecked
import GoSem.Claim
import GoSem.ClaimJoined
import GoSem.ClaimMapViews
import Derived.JoinedTies
import Derived.KernelRfl
namespace Go.Proofs.Ytbhkjaiaglkgjaa
/- THE CELL 'sum', in the pinned program and in every row, IS THE sha256 OF THE DUMP (.gsa) THAT YtbhkjaiaglkgjaaProg.lean LOADS. Nothing in Lean hashes anything: it is a label: what it is worth is what the hold of that sum in a sandbox is worth. -/
noncomputable def Try.pinned : Pinned := { name := "ytbhkjaiaglkgjaa", sum := "aef595acc60593b5bdf9197af29de543aef74cf11660cfccd8b26fea5b53c6f5", checked := Try.checked }
namespace Rows
def none {H : Type} : Left H := { results := [], args := [] }

/-- 'reedpenlaw04.RegexRight': WHATEVER THE INPUT: true; the input reads as it did. -/
def regexRightSpec : ChangeSpec := { name := "regexRight", fn := fun _ => fun
  | [d] => { results := [.lit (.bool true)], args := [d] }
  | _ => none }
def regexRightRow : OpenClaim := { program := "ytbhkjaiaglkgjaa", sum := "aef595acc60593b5bdf9197af29de543aef74cf11660cfccd8b26fea5b53c6f5", func := "reedpen/reedpenlaw04.RegexRight", spec := "regexRight", unfollowed := true, recurses := true, loops := true, apart := false }
def RegexRightSaid : Prop := regexRightRow.holds Try.pinned (OpenSpec.ofChange regexRightSpec)

/-- ITS FALSE NEIGHBOUR: 'it returns false'. Refute it at one input. -/
def regexRightWrong : ChangeSpec := { name := "regexRight", fn := fun _ => fun
  | [d] => { results := [.lit (.bool false)], args := [d] }
  | _ => none }
def RegexRightWrongFalsely : Prop := regexRightRow.holds Try.pinned (OpenSpec.ofChange regexRightWrong)

/-- 'reedpenlaw04.RegexTells': WHATEVER THE INPUT: true; the input reads as it did. -/
def regexTellsSpec : ChangeSpec := { name := "regexTells", fn := fun _ => fun
  | [d] => { results := [.lit (.bool true)], args := [d] }
  | _ => none }
def regexTellsRow : OpenClaim := { program := "ytbhkjaiaglkgjaa", sum := "aef595acc60593b5bdf9197af29de543aef74cf11660cfccd8b26fea5b53c6f5", func := "reedpen/reedpenlaw04.RegexTells", spec := "regexTells", unfollowed := true, recurses := true, loops := true, apart := false }
def RegexTellsSaid : Prop := regexTellsRow.holds Try.pinned (OpenSpec.ofChange regexTellsSpec)

/-- ITS FALSE NEIGHBOUR: 'it returns false'. Refute it at one input. -/
def regexTellsWrong : ChangeSpec := { name := "regexTells", fn := fun _ => fun
  | [d] => { results := [.lit (.bool false)], args := [d] }
  | _ => none }
def RegexTellsWrongFalsely : Prop := regexTellsRow.holds Try.pinned (OpenSpec.ofChange regexTellsWrong)

/-- 'reedpenlaw04.RegexSame': WHATEVER THE INPUT: true; the input reads as it did. -/
def regexSameSpec : ChangeSpec := { name := "regexSame", fn := fun _ => fun
  | [d1, d2] => { results := [.lit (.bool true)], args := [d1, d2] }
  | _ => none }
def regexSameRow : OpenClaim := { program := "ytbhkjaiaglkgjaa", sum := "aef595acc60593b5bdf9197af29de543aef74cf11660cfccd8b26fea5b53c6f5", func := "reedpen/reedpenlaw04.RegexSame", spec := "regexSame", unfollowed := true, recurses := true, loops := true, apart := false }
def RegexSameSaid : Prop := regexSameRow.holds Try.pinned (OpenSpec.ofChange regexSameSpec)

/-- ITS FALSE NEIGHBOUR: 'it returns false'. Refute it at one input. -/
def regexSameWrong : ChangeSpec := { name := "regexSame", fn := fun _ => fun
  | [d1, d2] => { results := [.lit (.bool false)], args := [d1, d2] }
  | _ => none }
def RegexSameWrongFalsely : Prop := regexSameRow.holds Try.pinned (OpenSpec.ofChange regexSameWrong)

/-- 'reedpenlaw04.RegexTurns': WHATEVER THE INPUT: true; the input reads as it did. -/
def regexTurnsSpec : ChangeSpec := { name := "regexTurns", fn := fun _ => fun
  | [d1, d2] => { results := [.lit (.bool true)], args := [d1, d2] }
  | _ => none }
def regexTurnsRow : OpenClaim := { program := "ytbhkjaiaglkgjaa", sum := "aef595acc60593b5bdf9197af29de543aef74cf11660cfccd8b26fea5b53c6f5", func := "reedpen/reedpenlaw04.RegexTurns", spec := "regexTurns", unfollowed := true, recurses := true, loops := true, apart := false }
def RegexTurnsSaid : Prop := regexTurnsRow.holds Try.pinned (OpenSpec.ofChange regexTurnsSpec)

/-- ITS FALSE NEIGHBOUR: 'it returns false'. Refute it at one input. -/
def regexTurnsWrong : ChangeSpec := { name := "regexTurns", fn := fun _ => fun
  | [d1, d2] => { results := [.lit (.bool false)], args := [d1, d2] }
  | _ => none }
def RegexTurnsWrongFalsely : Prop := regexTurnsRow.holds Try.pinned (OpenSpec.ofChange regexTurnsWrong)

/-- 'reedpenlaw04.RegexBegins': WHATEVER THE INPUT: true; the input reads as it did. -/
def regexBeginsSpec : ChangeSpec := { name := "regexBegins", fn := fun _ => fun
  | [d1, d2] => { results := [.lit (.bool true)], args := [d1, d2] }
  | _ => none }
def regexBeginsRow : OpenClaim := { program := "ytbhkjaiaglkgjaa", sum := "aef595acc60593b5bdf9197af29de543aef74cf11660cfccd8b26fea5b53c6f5", func := "reedpen/reedpenlaw04.RegexBegins", spec := "regexBegins", unfollowed := true, recurses := true, loops := true, apart := false }
def RegexBeginsSaid : Prop := regexBeginsRow.holds Try.pinned (OpenSpec.ofChange regexBeginsSpec)

/-- ITS FALSE NEIGHBOUR: 'it returns false'. Refute it at one input. -/
def regexBeginsWrong : ChangeSpec := { name := "regexBegins", fn := fun _ => fun
  | [d1, d2] => { results := [.lit (.bool false)], args := [d1, d2] }
  | _ => none }
def RegexBeginsWrongFalsely : Prop := regexBeginsRow.holds Try.pinned (OpenSpec.ofChange regexBeginsWrong)

/- THE SECOND FORM. 'bulk': how many values and letters a reading holds, each counted each time it is reached (what is shared counts as often as it is met; a slice's spare places count too). A statement '..UptoSaid' is the law's where the arguments, and the package variables that the reading takes, are together of bulk at most 1048576: NARROWER than '..Said'. Prove '..Said' where nothing that the law and all that it calls make is longer than what came in: it says more and counts as full. Else prove '..UptoSaid'. A law counts once. -/
mutual
def uptoBulk {H : Type} : DataW H → Nat
  | .lit (.string bytes) => bytes.length + 1
  | .lit _ => 1
  | .nil => 1
  | .ptr d => uptoBulk d + 1
  | .slice elems spare => uptoBulkAll elems + uptoBulkAll spare + 1
  | .agg parts => uptoBulkAll parts + 1
  | .iface _ d => uptoBulk d + 1
  | .map entries => uptoBulkEntries entries + 1
  | .held _ => 1
def uptoBulkAll {H : Type} : List (DataW H) → Nat
  | [] => 0
  | d :: r => uptoBulk d + uptoBulkAll r
def uptoBulkEntries {H : Type} : List (Lit × DataW H) → Nat
  | [] => 0
  | x :: r => uptoBulkEntry x + uptoBulkEntries r
def uptoBulkEntry {H : Type} : Lit × DataW H → Nat
  | (.string bytes, d) => bytes.length + uptoBulk d + 1
  | (_, d) => uptoBulk d + 1
 end
def uptoSmall : (H : Type) → List (DataW H) → Bool := fun _ ds => decide (uptoBulkAll ds ≤ 1048576)
def OpenSpec.upto (s : _root_.Go.ChangeSpec) : _root_.Go.OpenSpec := { _root_.Go.OpenSpec.ofChange s with cond := some uptoSmall }

/-- 'reedpenlaw04.RegexRight', WHERE WHAT IT READS IS OF BULK AT MOST 1048576: true; the input reads as it did. -/
def regexRightUptoRow : OpenClaim := { program := "ytbhkjaiaglkgjaa", sum := "aef595acc60593b5bdf9197af29de543aef74cf11660cfccd8b26fea5b53c6f5", func := "reedpen/reedpenlaw04.RegexRight", spec := "regexRight", unfollowed := true, recurses := true, loops := true, apart := false, narrowed := true }
def RegexRightUptoSaid : Prop := regexRightUptoRow.holds Try.pinned (OpenSpec.upto regexRightSpec)

/-- 'reedpenlaw04.RegexTells', WHERE WHAT IT READS IS OF BULK AT MOST 1048576: true; the input reads as it did. -/
def regexTellsUptoRow : OpenClaim := { program := "ytbhkjaiaglkgjaa", sum := "aef595acc60593b5bdf9197af29de543aef74cf11660cfccd8b26fea5b53c6f5", func := "reedpen/reedpenlaw04.RegexTells", spec := "regexTells", unfollowed := true, recurses := true, loops := true, apart := false, narrowed := true }
def RegexTellsUptoSaid : Prop := regexTellsUptoRow.holds Try.pinned (OpenSpec.upto regexTellsSpec)

/-- 'reedpenlaw04.RegexSame', WHERE WHAT IT READS IS OF BULK AT MOST 1048576: true; the input reads as it did. -/
def regexSameUptoRow : OpenClaim := { program := "ytbhkjaiaglkgjaa", sum := "aef595acc60593b5bdf9197af29de543aef74cf11660cfccd8b26fea5b53c6f5", func := "reedpen/reedpenlaw04.RegexSame", spec := "regexSame", unfollowed := true, recurses := true, loops := true, apart := false, narrowed := true }
def RegexSameUptoSaid : Prop := regexSameUptoRow.holds Try.pinned (OpenSpec.upto regexSameSpec)

/-- 'reedpenlaw04.RegexTurns', WHERE WHAT IT READS IS OF BULK AT MOST 1048576: true; the input reads as it did. -/
def regexTurnsUptoRow : OpenClaim := { program := "ytbhkjaiaglkgjaa", sum := "aef595acc60593b5bdf9197af29de543aef74cf11660cfccd8b26fea5b53c6f5", func := "reedpen/reedpenlaw04.RegexTurns", spec := "regexTurns", unfollowed := true, recurses := true, loops := true, apart := false, narrowed := true }
def RegexTurnsUptoSaid : Prop := regexTurnsUptoRow.holds Try.pinned (OpenSpec.upto regexTurnsSpec)

/-- 'reedpenlaw04.RegexBegins', WHERE WHAT IT READS IS OF BULK AT MOST 1048576: true; the input reads as it did. -/
def regexBeginsUptoRow : OpenClaim := { program := "ytbhkjaiaglkgjaa", sum := "aef595acc60593b5bdf9197af29de543aef74cf11660cfccd8b26fea5b53c6f5", func := "reedpen/reedpenlaw04.RegexBegins", spec := "regexBegins", unfollowed := true, recurses := true, loops := true, apart := false, narrowed := true }
def RegexBeginsUptoSaid : Prop := regexBeginsUptoRow.holds Try.pinned (OpenSpec.upto regexBeginsSpec)

end Rows
end Go.Proofs.Ytbhkjaiaglkgjaa
