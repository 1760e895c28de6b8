/-
  NARROWER THAN 'FOR EVERY INPUT', by the rows' own cells (each row's printed sentence says how): JoiningForms: laid · JoiningCuts: laid · JoiningTurns: laid · JoiningPieces: laid.
  DERIVED. THE GIVEN ROWS OF THIS SEAT. 4 by the template 'for every input the law returns true; each argument reads behind the call as it read before'; 0 by the template 'total and deterministic' (their statements: YtdaeombjdagnbaaDoorTotals.lean).
  GIVEN WITH THE SEED: the statements are not yours to turn. If you find one false, say at which input.
  Laid BY PROGRAM, IN A SANDBOX (cutbox-rows.mjs): the forced cells as the released guide's own fill.sh prints them over the translation 9e2194bf1646bfc8… (all of the seat's roots in one cut). By AI agents, Wed Nov 11 2026. No macro, syntax, notation, axiom, sorry.
-/
import Derived.Test.YtdaeombjdagnbaaDoorChecked
import GoSem.Claim
import GoSem.ClaimJoined
import GoSem.ClaimMapViews
import Derived.JoinedTies
import Derived.KernelRfl
namespace Go.Proofs.YtdaeombjdagnbaaDoor
/- THE CELL 'sum', in the pinned program and in every row, IS THE sha256 OF THE DUMP (.gsa) THAT YtdaeombjdagnbaaDoorProg.lean LOADS. Nothing in Lean hashes anything: it is a label: what it is worth is what the hold of that sum in a sandbox is worth. -/
noncomputable def Tryd.pinned : Pinned := { name := "ytdaeombjdagnbaadoor", sum := "9e2194bf1646bfc81490cfa08044a89f073ffd68c388670f4bbf20c0d4957094", checked := Tryd.checked }
namespace Rows
def none {H : Type} : Left H := { results := [], args := [] }

/- WHAT THE LISTED PACKAGE-LEVEL VARIABLES READ AS WHEN THE CALL BEGINS. Each datum BY PROGRAM (the guide's laid-datum.mjs) off the statement by which the dump's own 'gosem.cut.vars' lays the variable. In a bare row this is a premise. The card (YtdaeombjdagnbaaDoorCards.lean) ties it to the program's text. -/
def laid_reedpen_joining_features {H : Type} : DataW H := .agg [.lit (.string []), .lit (.string [105, 115, 111, 108]), .lit (.string [102, 105, 110, 97]), .lit (.string [109, 101, 100, 105]), .lit (.string [105, 110, 105, 116])]

/-- 'reedpenlaw23.JoiningForms': WHATEVER THE INPUT: true; the input reads as it did. -/
def joiningFormsSpec : ChangeSpec := { name := "joiningForms", fn := fun _ => fun
  | [d1, d2, d3] => { results := [.lit (.bool true)], args := [d1, d2, d3] }
  | _ => none }
def joiningFormsRow : OpenClaim := { program := "ytdaeombjdagnbaadoor", sum := "9e2194bf1646bfc81490cfa08044a89f073ffd68c388670f4bbf20c0d4957094", func := "reedpen/reedpenlaw23.JoiningForms", spec := "joiningForms", unfollowed := true, recurses := true, named := ["reedpen/joining.features"], apart := false, laid := [("reedpen/joining.features", laid_reedpen_joining_features)] }
def JoiningFormsSaid : Prop := joiningFormsRow.holds Tryd.pinned (OpenSpec.ofChange joiningFormsSpec)

/-- ITS FALSE NEIGHBOUR: 'it returns false'. Refute it at one input. -/
def joiningFormsWrong : ChangeSpec := { name := "joiningForms", fn := fun _ => fun
  | [d1, d2, d3] => { results := [.lit (.bool false)], args := [d1, d2, d3] }
  | _ => none }
def JoiningFormsWrongFalsely : Prop := joiningFormsRow.holds Tryd.pinned (OpenSpec.ofChange joiningFormsWrong)

/-- 'reedpenlaw23.JoiningCuts': WHATEVER THE INPUT: true; the input reads as it did. -/
def joiningCutsSpec : ChangeSpec := { name := "joiningCuts", fn := fun _ => fun
  | [d1, d2] => { results := [.lit (.bool true)], args := [d1, d2] }
  | _ => none }
def joiningCutsRow : OpenClaim := { program := "ytdaeombjdagnbaadoor", sum := "9e2194bf1646bfc81490cfa08044a89f073ffd68c388670f4bbf20c0d4957094", func := "reedpen/reedpenlaw23.JoiningCuts", spec := "joiningCuts", unfollowed := true, recurses := true, named := ["reedpen/joining.features"], apart := false, laid := [("reedpen/joining.features", laid_reedpen_joining_features)] }
def JoiningCutsSaid : Prop := joiningCutsRow.holds Tryd.pinned (OpenSpec.ofChange joiningCutsSpec)

/-- ITS FALSE NEIGHBOUR: 'it returns false'. Refute it at one input. -/
def joiningCutsWrong : ChangeSpec := { name := "joiningCuts", fn := fun _ => fun
  | [d1, d2] => { results := [.lit (.bool false)], args := [d1, d2] }
  | _ => none }
def JoiningCutsWrongFalsely : Prop := joiningCutsRow.holds Tryd.pinned (OpenSpec.ofChange joiningCutsWrong)

/-- 'reedpenlaw23.JoiningTurns': WHATEVER THE INPUT: true; the input reads as it did. -/
def joiningTurnsSpec : ChangeSpec := { name := "joiningTurns", fn := fun _ => fun
  | [d] => { results := [.lit (.bool true)], args := [d] }
  | _ => none }
def joiningTurnsRow : OpenClaim := { program := "ytdaeombjdagnbaadoor", sum := "9e2194bf1646bfc81490cfa08044a89f073ffd68c388670f4bbf20c0d4957094", func := "reedpen/reedpenlaw23.JoiningTurns", spec := "joiningTurns", unfollowed := true, recurses := true, named := ["reedpen/joining.features"], apart := false, laid := [("reedpen/joining.features", laid_reedpen_joining_features)] }
def JoiningTurnsSaid : Prop := joiningTurnsRow.holds Tryd.pinned (OpenSpec.ofChange joiningTurnsSpec)

/-- ITS FALSE NEIGHBOUR: 'it returns false'. Refute it at one input. -/
def joiningTurnsWrong : ChangeSpec := { name := "joiningTurns", fn := fun _ => fun
  | [d] => { results := [.lit (.bool false)], args := [d] }
  | _ => none }
def JoiningTurnsWrongFalsely : Prop := joiningTurnsRow.holds Tryd.pinned (OpenSpec.ofChange joiningTurnsWrong)

/-- 'reedpenlaw23.JoiningPieces': WHATEVER THE INPUT: true; the input reads as it did. -/
def joiningPiecesSpec : ChangeSpec := { name := "joiningPieces", fn := fun _ => fun
  | [d] => { results := [.lit (.bool true)], args := [d] }
  | _ => none }
def joiningPiecesRow : OpenClaim := { program := "ytdaeombjdagnbaadoor", sum := "9e2194bf1646bfc81490cfa08044a89f073ffd68c388670f4bbf20c0d4957094", func := "reedpen/reedpenlaw23.JoiningPieces", spec := "joiningPieces", unfollowed := true, recurses := true, named := ["reedpen/joining.features"], apart := false, laid := [("reedpen/joining.features", laid_reedpen_joining_features)] }
def JoiningPiecesSaid : Prop := joiningPiecesRow.holds Tryd.pinned (OpenSpec.ofChange joiningPiecesSpec)

/-- ITS FALSE NEIGHBOUR: 'it returns false'. Refute it at one input. -/
def joiningPiecesWrong : ChangeSpec := { name := "joiningPieces", fn := fun _ => fun
  | [d] => { results := [.lit (.bool false)], args := [d] }
  | _ => none }
def JoiningPiecesWrongFalsely : Prop := joiningPiecesRow.holds Tryd.pinned (OpenSpec.ofChange joiningPiecesWrong)

/- THE SECOND FORM. 'bulk': how many values and letters a reading holds, each counted each time it is reached (what is shared counts as often as it is met; a slice's spare places count too). A statement '..UptoSaid' is the law's where the arguments, and the package variables that the reading takes, are together of bulk at most 1048576: NARROWER than '..Said'. Prove '..Said' where nothing that the law and all that it calls make is longer than what came in: it says more and counts as full. Else prove '..UptoSaid'. A law counts once. -/
mutual
def uptoBulk {H : Type} : DataW H → Nat
  | .lit (.string bytes) => bytes.length + 1
  | .lit _ => 1
  | .nil => 1
  | .ptr d => uptoBulk d + 1
  | .slice elems spare => uptoBulkAll elems + uptoBulkAll spare + 1
  | .agg parts => uptoBulkAll parts + 1
  | .iface _ d => uptoBulk d + 1
  | .map entries => uptoBulkEntries entries + 1
  | .held _ => 1
def uptoBulkAll {H : Type} : List (DataW H) → Nat
  | [] => 0
  | d :: r => uptoBulk d + uptoBulkAll r
def uptoBulkEntries {H : Type} : List (Lit × DataW H) → Nat
  | [] => 0
  | x :: r => uptoBulkEntry x + uptoBulkEntries r
def uptoBulkEntry {H : Type} : Lit × DataW H → Nat
  | (.string bytes, d) => bytes.length + uptoBulk d + 1
  | (_, d) => uptoBulk d + 1
 end
def uptoSmall : (H : Type) → List (DataW H) → Bool := fun _ ds => decide (uptoBulkAll ds ≤ 1048576)
def OpenSpec.upto (s : _root_.Go.ChangeSpec) : _root_.Go.OpenSpec := { _root_.Go.OpenSpec.ofChange s with cond := some uptoSmall }

/-- 'reedpenlaw23.JoiningForms', WHERE WHAT IT READS IS OF BULK AT MOST 1048576: true; the input reads as it did. -/
def joiningFormsUptoRow : OpenClaim := { program := "ytdaeombjdagnbaadoor", sum := "9e2194bf1646bfc81490cfa08044a89f073ffd68c388670f4bbf20c0d4957094", func := "reedpen/reedpenlaw23.JoiningForms", spec := "joiningForms", unfollowed := true, recurses := true, named := ["reedpen/joining.features"], apart := false, laid := [("reedpen/joining.features", laid_reedpen_joining_features)], narrowed := true }
def JoiningFormsUptoSaid : Prop := joiningFormsUptoRow.holds Tryd.pinned (OpenSpec.upto joiningFormsSpec)

/-- 'reedpenlaw23.JoiningCuts', WHERE WHAT IT READS IS OF BULK AT MOST 1048576: true; the input reads as it did. -/
def joiningCutsUptoRow : OpenClaim := { program := "ytdaeombjdagnbaadoor", sum := "9e2194bf1646bfc81490cfa08044a89f073ffd68c388670f4bbf20c0d4957094", func := "reedpen/reedpenlaw23.JoiningCuts", spec := "joiningCuts", unfollowed := true, recurses := true, named := ["reedpen/joining.features"], apart := false, laid := [("reedpen/joining.features", laid_reedpen_joining_features)], narrowed := true }
def JoiningCutsUptoSaid : Prop := joiningCutsUptoRow.holds Tryd.pinned (OpenSpec.upto joiningCutsSpec)

/-- 'reedpenlaw23.JoiningTurns', WHERE WHAT IT READS IS OF BULK AT MOST 1048576: true; the input reads as it did. -/
def joiningTurnsUptoRow : OpenClaim := { program := "ytdaeombjdagnbaadoor", sum := "9e2194bf1646bfc81490cfa08044a89f073ffd68c388670f4bbf20c0d4957094", func := "reedpen/reedpenlaw23.JoiningTurns", spec := "joiningTurns", unfollowed := true, recurses := true, named := ["reedpen/joining.features"], apart := false, laid := [("reedpen/joining.features", laid_reedpen_joining_features)], narrowed := true }
def JoiningTurnsUptoSaid : Prop := joiningTurnsUptoRow.holds Tryd.pinned (OpenSpec.upto joiningTurnsSpec)

/-- 'reedpenlaw23.JoiningPieces', WHERE WHAT IT READS IS OF BULK AT MOST 1048576: true; the input reads as it did. -/
def joiningPiecesUptoRow : OpenClaim := { program := "ytdaeombjdagnbaadoor", sum := "9e2194bf1646bfc81490cfa08044a89f073ffd68c388670f4bbf20c0d4957094", func := "reedpen/reedpenlaw23.JoiningPieces", spec := "joiningPieces", unfollowed := true, recurses := true, named := ["reedpen/joining.features"], apart := false, laid := [("reedpen/joining.features", laid_reedpen_joining_features)], narrowed := true }
def JoiningPiecesUptoSaid : Prop := joiningPiecesUptoRow.holds Tryd.pinned (OpenSpec.upto joiningPiecesSpec)

end Rows
end Go.Proofs.YtdaeombjdagnbaaDoor
