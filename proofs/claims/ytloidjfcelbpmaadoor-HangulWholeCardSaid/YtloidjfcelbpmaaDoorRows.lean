/-
  NARROWER THAN 'FOR EVERY INPUT', by the rows' own cells (each row's printed sentence says how): HangulParts: laid · HangulCuts: laid · HangulWhole: laid · HangulBack: laid.
  DERIVED. THE GIVEN ROWS OF THIS SEAT. 4 by the template 'for every input the law returns true; each argument reads behind the call as it read before'; 0 by the template 'total and deterministic' (their statements: YtloidjfcelbpmaaDoorTotals.lean).
  GIVEN WITH THE SEED: the statements are not yours to turn. If you find one false, say at which input.
  Laid BY PROGRAM, IN A SANDBOX (cutbox-rows.mjs): the forced cells as the released guide's own fill.sh prints them over the translation 8eaafb74d4de684b… (all of the seat's roots in one cut). By AI agents, Wed Nov 11 2026. No macro, syntax, notation, axiom, sorry.
-/
import Derived.Test.YtloidjfcelbpmaaDoorChecked
import GoSem.Claim
import GoSem.ClaimJoined
import GoSem.ClaimMapViews
import Derived.JoinedTies
import Derived.KernelRfl
namespace Go.Proofs.YtloidjfcelbpmaaDoor
/- THE CELL 'sum', in the pinned program and in every row, IS THE sha256 OF THE DUMP (.gsa) THAT YtloidjfcelbpmaaDoorProg.lean LOADS. Nothing in Lean hashes anything: it is a label: what it is worth is what the hold of that sum in a sandbox is worth. -/
noncomputable def Tryd.pinned : Pinned := { name := "ytloidjfcelbpmaadoor", sum := "8eaafb74d4de684bf0e6c33292c0f22a8630a16c5c82ee8d386cfd272ceedf24", checked := Tryd.checked }
namespace Rows
def none {H : Type} : Left H := { results := [], args := [] }

/- WHAT THE LISTED PACKAGE-LEVEL VARIABLES READ AS WHEN THE CALL BEGINS. Each datum BY PROGRAM (the guide's laid-datum.mjs) off the statement by which the dump's own 'gosem.cut.vars' lays the variable. In a bare row this is a premise. The card (YtloidjfcelbpmaaDoorCards.lean) ties it to the program's text. -/
def laid_reedpen_hangul_ranges {H : Type} : DataW H := .agg [.agg [.lit (.int .i32 4352), .lit (.int .i32 4447), .lit (.int .i32 1)], .agg [.lit (.int .i32 43360), .lit (.int .i32 43388), .lit (.int .i32 1)], .agg [.lit (.int .i32 4448), .lit (.int .i32 4519), .lit (.int .i32 2)], .agg [.lit (.int .i32 55216), .lit (.int .i32 55238), .lit (.int .i32 2)], .agg [.lit (.int .i32 4520), .lit (.int .i32 4607), .lit (.int .i32 3)], .agg [.lit (.int .i32 55243), .lit (.int .i32 55291), .lit (.int .i32 3)]]

/-- 'reedpenlaw22.HangulParts': WHATEVER THE INPUT: true; the input reads as it did. -/
def hangulPartsSpec : ChangeSpec := { name := "hangulParts", fn := fun _ => fun
  | [d1, d2] => { results := [.lit (.bool true)], args := [d1, d2] }
  | _ => none }
def hangulPartsRow : OpenClaim := { program := "ytloidjfcelbpmaadoor", sum := "8eaafb74d4de684bf0e6c33292c0f22a8630a16c5c82ee8d386cfd272ceedf24", func := "reedpen/reedpenlaw22.HangulParts", spec := "hangulParts", unfollowed := true, recurses := true, named := ["reedpen/hangul.ranges"], apart := false, laid := [("reedpen/hangul.ranges", laid_reedpen_hangul_ranges)] }
def HangulPartsSaid : Prop := hangulPartsRow.holds Tryd.pinned (OpenSpec.ofChange hangulPartsSpec)

/-- ITS FALSE NEIGHBOUR: 'it returns false'. Refute it at one input. -/
def hangulPartsWrong : ChangeSpec := { name := "hangulParts", fn := fun _ => fun
  | [d1, d2] => { results := [.lit (.bool false)], args := [d1, d2] }
  | _ => none }
def HangulPartsWrongFalsely : Prop := hangulPartsRow.holds Tryd.pinned (OpenSpec.ofChange hangulPartsWrong)

/-- 'reedpenlaw22.HangulCuts': WHATEVER THE INPUT: true; the input reads as it did. -/
def hangulCutsSpec : ChangeSpec := { name := "hangulCuts", fn := fun _ => fun
  | [d] => { results := [.lit (.bool true)], args := [d] }
  | _ => none }
def hangulCutsRow : OpenClaim := { program := "ytloidjfcelbpmaadoor", sum := "8eaafb74d4de684bf0e6c33292c0f22a8630a16c5c82ee8d386cfd272ceedf24", func := "reedpen/reedpenlaw22.HangulCuts", spec := "hangulCuts", unfollowed := true, recurses := true, named := ["reedpen/hangul.ranges"], apart := false, laid := [("reedpen/hangul.ranges", laid_reedpen_hangul_ranges)] }
def HangulCutsSaid : Prop := hangulCutsRow.holds Tryd.pinned (OpenSpec.ofChange hangulCutsSpec)

/-- ITS FALSE NEIGHBOUR: 'it returns false'. Refute it at one input. -/
def hangulCutsWrong : ChangeSpec := { name := "hangulCuts", fn := fun _ => fun
  | [d] => { results := [.lit (.bool false)], args := [d] }
  | _ => none }
def HangulCutsWrongFalsely : Prop := hangulCutsRow.holds Tryd.pinned (OpenSpec.ofChange hangulCutsWrong)

/-- 'reedpenlaw22.HangulWhole': WHATEVER THE INPUT: true; the input reads as it did. -/
def hangulWholeSpec : ChangeSpec := { name := "hangulWhole", fn := fun _ => fun
  | [d1, d2] => { results := [.lit (.bool true)], args := [d1, d2] }
  | _ => none }
def hangulWholeRow : OpenClaim := { program := "ytloidjfcelbpmaadoor", sum := "8eaafb74d4de684bf0e6c33292c0f22a8630a16c5c82ee8d386cfd272ceedf24", func := "reedpen/reedpenlaw22.HangulWhole", spec := "hangulWhole", unfollowed := true, recurses := true, named := ["reedpen/hangul.ranges"], apart := false, laid := [("reedpen/hangul.ranges", laid_reedpen_hangul_ranges)] }
def HangulWholeSaid : Prop := hangulWholeRow.holds Tryd.pinned (OpenSpec.ofChange hangulWholeSpec)

/-- ITS FALSE NEIGHBOUR: 'it returns false'. Refute it at one input. -/
def hangulWholeWrong : ChangeSpec := { name := "hangulWhole", fn := fun _ => fun
  | [d1, d2] => { results := [.lit (.bool false)], args := [d1, d2] }
  | _ => none }
def HangulWholeWrongFalsely : Prop := hangulWholeRow.holds Tryd.pinned (OpenSpec.ofChange hangulWholeWrong)

/-- 'reedpenlaw22.HangulBack': WHATEVER THE INPUT: true; the input reads as it did. -/
def hangulBackSpec : ChangeSpec := { name := "hangulBack", fn := fun _ => fun
  | [d] => { results := [.lit (.bool true)], args := [d] }
  | _ => none }
def hangulBackRow : OpenClaim := { program := "ytloidjfcelbpmaadoor", sum := "8eaafb74d4de684bf0e6c33292c0f22a8630a16c5c82ee8d386cfd272ceedf24", func := "reedpen/reedpenlaw22.HangulBack", spec := "hangulBack", unfollowed := true, recurses := true, named := ["reedpen/hangul.ranges"], apart := false, laid := [("reedpen/hangul.ranges", laid_reedpen_hangul_ranges)] }
def HangulBackSaid : Prop := hangulBackRow.holds Tryd.pinned (OpenSpec.ofChange hangulBackSpec)

/-- ITS FALSE NEIGHBOUR: 'it returns false'. Refute it at one input. -/
def hangulBackWrong : ChangeSpec := { name := "hangulBack", fn := fun _ => fun
  | [d] => { results := [.lit (.bool false)], args := [d] }
  | _ => none }
def HangulBackWrongFalsely : Prop := hangulBackRow.holds Tryd.pinned (OpenSpec.ofChange hangulBackWrong)

/- THE SECOND FORM. 'bulk': how many values and letters a reading holds, each counted each time it is reached (what is shared counts as often as it is met; a slice's spare places count too). A statement '..UptoSaid' is the law's where the arguments, and the package variables that the reading takes, are together of bulk at most 1048576: NARROWER than '..Said'. Prove '..Said' where nothing that the law and all that it calls make is longer than what came in: it says more and counts as full. Else prove '..UptoSaid'. A law counts once. -/
mutual
def uptoBulk {H : Type} : DataW H → Nat
  | .lit (.string bytes) => bytes.length + 1
  | .lit _ => 1
  | .nil => 1
  | .ptr d => uptoBulk d + 1
  | .slice elems spare => uptoBulkAll elems + uptoBulkAll spare + 1
  | .agg parts => uptoBulkAll parts + 1
  | .iface _ d => uptoBulk d + 1
  | .map entries => uptoBulkEntries entries + 1
  | .held _ => 1
def uptoBulkAll {H : Type} : List (DataW H) → Nat
  | [] => 0
  | d :: r => uptoBulk d + uptoBulkAll r
def uptoBulkEntries {H : Type} : List (Lit × DataW H) → Nat
  | [] => 0
  | x :: r => uptoBulkEntry x + uptoBulkEntries r
def uptoBulkEntry {H : Type} : Lit × DataW H → Nat
  | (.string bytes, d) => bytes.length + uptoBulk d + 1
  | (_, d) => uptoBulk d + 1
 end
def uptoSmall : (H : Type) → List (DataW H) → Bool := fun _ ds => decide (uptoBulkAll ds ≤ 1048576)
def OpenSpec.upto (s : _root_.Go.ChangeSpec) : _root_.Go.OpenSpec := { _root_.Go.OpenSpec.ofChange s with cond := some uptoSmall }

/-- 'reedpenlaw22.HangulParts', WHERE WHAT IT READS IS OF BULK AT MOST 1048576: true; the input reads as it did. -/
def hangulPartsUptoRow : OpenClaim := { program := "ytloidjfcelbpmaadoor", sum := "8eaafb74d4de684bf0e6c33292c0f22a8630a16c5c82ee8d386cfd272ceedf24", func := "reedpen/reedpenlaw22.HangulParts", spec := "hangulParts", unfollowed := true, recurses := true, named := ["reedpen/hangul.ranges"], apart := false, laid := [("reedpen/hangul.ranges", laid_reedpen_hangul_ranges)], narrowed := true }
def HangulPartsUptoSaid : Prop := hangulPartsUptoRow.holds Tryd.pinned (OpenSpec.upto hangulPartsSpec)

/-- 'reedpenlaw22.HangulCuts', WHERE WHAT IT READS IS OF BULK AT MOST 1048576: true; the input reads as it did. -/
def hangulCutsUptoRow : OpenClaim := { program := "ytloidjfcelbpmaadoor", sum := "8eaafb74d4de684bf0e6c33292c0f22a8630a16c5c82ee8d386cfd272ceedf24", func := "reedpen/reedpenlaw22.HangulCuts", spec := "hangulCuts", unfollowed := true, recurses := true, named := ["reedpen/hangul.ranges"], apart := false, laid := [("reedpen/hangul.ranges", laid_reedpen_hangul_ranges)], narrowed := true }
def HangulCutsUptoSaid : Prop := hangulCutsUptoRow.holds Tryd.pinned (OpenSpec.upto hangulCutsSpec)

/-- 'reedpenlaw22.HangulWhole', WHERE WHAT IT READS IS OF BULK AT MOST 1048576: true; the input reads as it did. -/
def hangulWholeUptoRow : OpenClaim := { program := "ytloidjfcelbpmaadoor", sum := "8eaafb74d4de684bf0e6c33292c0f22a8630a16c5c82ee8d386cfd272ceedf24", func := "reedpen/reedpenlaw22.HangulWhole", spec := "hangulWhole", unfollowed := true, recurses := true, named := ["reedpen/hangul.ranges"], apart := false, laid := [("reedpen/hangul.ranges", laid_reedpen_hangul_ranges)], narrowed := true }
def HangulWholeUptoSaid : Prop := hangulWholeUptoRow.holds Tryd.pinned (OpenSpec.upto hangulWholeSpec)

/-- 'reedpenlaw22.HangulBack', WHERE WHAT IT READS IS OF BULK AT MOST 1048576: true; the input reads as it did. -/
def hangulBackUptoRow : OpenClaim := { program := "ytloidjfcelbpmaadoor", sum := "8eaafb74d4de684bf0e6c33292c0f22a8630a16c5c82ee8d386cfd272ceedf24", func := "reedpen/reedpenlaw22.HangulBack", spec := "hangulBack", unfollowed := true, recurses := true, named := ["reedpen/hangul.ranges"], apart := false, laid := [("reedpen/hangul.ranges", laid_reedpen_hangul_ranges)], narrowed := true }
def HangulBackUptoSaid : Prop := hangulBackUptoRow.holds Tryd.pinned (OpenSpec.upto hangulBackSpec)

end Rows
end Go.Proofs.YtloidjfcelbpmaaDoor
