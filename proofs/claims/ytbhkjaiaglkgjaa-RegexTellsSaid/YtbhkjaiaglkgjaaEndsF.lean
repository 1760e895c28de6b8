/- What the call of Ends reckons, as functions of fuel (by ends.py out of the print). -/
import Derived.Test.YtbhkjaiaglkgjaaPRegexTellsx0
namespace Go.Proofs.Ytbhkjaiaglkgjaa.PRegexTells
open Go.RowKit Go.Proofs.YtbhkjaiaglkgjaaW.PrintWords Go.Proofs.YtbhkjaiaglkgjaaW.PrintLast Go.Proofs.YtbhkjaiaglkgjaaW.PrintMore
attribute [local go_sem] max2_int min2_int max_two min_two max_three min_three max_four min_four   -- for this text's walks alone
set_option linter.unusedVariables false
set_option linter.unusedSimpArgs false

/-! ### rEnds: function 33 -/
mutual
def rEnds.l0 : Nat → List Bool → List Bool → Int → Option (List Bool)
  | 0, _, _, _ => none
  | k + 1, x2, x7, x8 => if x8 < (x7.length : Int) then (if 0 ≤ x8 then (if x8 < (x2.length : Int) then (rEnds.l0 k x2 (x7.set (x8 : Int).toNat (rdOf false x2 x8)) (wrap64 (x8 + 1))) else (none)) else (none)) else (some x7)
def rEnds.l1 : Nat → List Int → List Bool → List Bool → Int → Int → Int → List (S25) → Option (List Bool)
  | 0, _, _, _, _, _, _, _ => none
  | k + 1, x1, x2, x7, x9, x165000, x165001, x165002 => if x9 < (x1.length : Int) then (if 0 ≤ x9 then (if x9 < (x2.length : Int) then (if rdOf false x2 x9 = true then (if (rd x1 x9) ≥ 0 then (if (rd x1 x9) < 16 then (if 0 ≤ (IntKind.u64.wrap (rd x1 x9)) then (if (Go.bits .and .u16 (shr .u16 x165001 (IntKind.u64.wrap (rd x1 x9))) 1) = 1 then (if 0 ≤ (wrap64 (x9 + 1)) then (if (wrap64 (x9 + 1)) < (x7.length : Int) then (rEnds.l1 k x1 x2 (x7.set ((wrap64 (x9 + 1)) : Int).toNat true) (wrap64 (x9 + 1)) x165000 x165001 x165002) else (none)) else (none)) else (rEnds.l1 k x1 x2 x7 (wrap64 (x9 + 1)) x165000 x165001 x165002)) else (none)) else (rEnds.l1 k x1 x2 x7 (wrap64 (x9 + 1)) x165000 x165001 x165002)) else (rEnds.l1 k x1 x2 x7 (wrap64 (x9 + 1)) x165000 x165001 x165002)) else (rEnds.l1 k x1 x2 x7 (wrap64 (x9 + 1)) x165000 x165001 x165002)) else (none)) else (none)) else (some x7)
def rEnds.l2 : Nat → List Int → List Bool → List Bool → Int → Int → Int → List (S25) → Option (List Bool)
  | 0, _, _, _, _, _, _, _ => none
  | k + 1, x1, x2, x7, x10, x165000, x165001, x165002 => if x10 < (x7.length : Int) then (if 0 ≤ x10 then (if x10 < (x2.length : Int) then (rEnds.l2 k x1 x2 (x7.set (x10 : Int).toNat (rdOf false x2 x10)) (wrap64 (x10 + 1)) x165000 x165001 x165002) else (none)) else (none)) else (rEnds.l3 k x1 x7 0 x165000 x165001 x165002)
def rEnds.l3 : Nat → List Int → List Bool → Int → Int → Int → List (S25) → Option (List Bool)
  | 0, _, _, _, _, _, _ => none
  | k + 1, x1, x7, x11, x165000, x165001, x165002 => if x11 < (x165002.length : Int) then (if 0 ≤ x11 then ((rEnds.f k ((rd_T25 x165002 x11).f0) ((rd_T25 x165002 x11).f1) ((rd_T25 x165002 x11).f2) x1 x7).bind fun t178 => (rEnds.l3 k x1 t178 (wrap64 (x11 + 1)) x165000 x165001 x165002)) else (none)) else (some x7)
def rEnds.l4 : Nat → List Int → List Bool → List Bool → Int → Int → Int → List (S25) → Option (List Bool)
  | 0, _, _, _, _, _, _, _ => none
  | k + 1, x1, x2, x7, x12, x165000, x165001, x165002 => if x12 < (x165002.length : Int) then (if 0 ≤ x12 then ((rEnds.f k ((rd_T25 x165002 x12).f0) ((rd_T25 x165002 x12).f1) ((rd_T25 x165002 x12).f2) x1 x2).bind fun t182 => (rEnds.l5 k x1 x2 x7 x12 t182 0 x165000 x165001 x165002)) else (none)) else (some x7)
def rEnds.l5 : Nat → List Int → List Bool → List Bool → Int → List Bool → Int → Int → Int → List (S25) → Option (List Bool)
  | 0, _, _, _, _, _, _, _, _, _ => none
  | k + 1, x1, x2, x7, x12, x13, x14, x165000, x165001, x165002 => if x14 < (x7.length : Int) then (if 0 ≤ x14 then (if rdOf false x7 x14 = true then (rEnds.l5 k x1 x2 (x7.set (x14 : Int).toNat true) x12 x13 (wrap64 (x14 + 1)) x165000 x165001 x165002) else (if x14 < (x13.length : Int) then (rEnds.l5 k x1 x2 (x7.set (x14 : Int).toNat (rdOf false x13 x14)) x12 x13 (wrap64 (x14 + 1)) x165000 x165001 x165002) else (none))) else (none)) else (rEnds.l4 k x1 x2 x7 (wrap64 (x12 + 1)) x165000 x165001 x165002)
def rEnds.j6 : Nat → List Int → List Bool → List Bool → Bool → Int → Int → List (S25) → Option (List Bool)
  | 0, _, _, _, _, _, _, _ => none
  | k + 1, x1, x2, x7, x149, x165000, x165001, x165002 => if x149 = true then (rEnds.l6 k x1 x2 x7 0 x165000 x165001 x165002) else (some x7)
def rEnds.l6 : Nat → List Int → List Bool → List Bool → Int → Int → Int → List (S25) → Option (List Bool)
  | 0, _, _, _, _, _, _, _ => none
  | k + 1, x1, x2, x7, x15, x165000, x165001, x165002 => if x15 < (x7.length : Int) then (if 0 ≤ x15 then (if x15 < (x2.length : Int) then (rEnds.l6 k x1 x2 (x7.set (x15 : Int).toNat (rdOf false x2 x15)) (wrap64 (x15 + 1)) x165000 x165001 x165002) else (none)) else (none)) else (rEnds.l7 k x1 x7 0 x165000 x165001 x165002)
def rEnds.l7 : Nat → List Int → List Bool → Int → Int → Int → List (S25) → Option (List Bool)
  | 0, _, _, _, _, _, _ => none
  | k + 1, x1, x7, x16, x165000, x165001, x165002 => if x16 < (x7.length : Int) then (if 0 < (x165002.length : Int) then ((rEnds.f k ((rd_T25 x165002 0).f0) ((rd_T25 x165002 0).f1) ((rd_T25 x165002 0).f2) x1 x7).bind fun t192 => (rEnds.l8 k x1 x7 x16 t192 false 0 x165000 x165001 x165002)) else (none)) else (some x7)
def rEnds.l8 : Nat → List Int → List Bool → Int → List Bool → Bool → Int → Int → Int → List (S25) → Option (List Bool)
  | 0, _, _, _, _, _, _, _, _, _ => none
  | k + 1, x1, x7, x16, x17, x18, x19, x165000, x165001, x165002 => if x19 < (x7.length : Int) then (if x18 = true then (if 0 ≤ x19 then (if rdOf false x7 x19 = true then (rEnds.l8 k x1 (x7.set (x19 : Int).toNat true) x16 x17 true (wrap64 (x19 + 1)) x165000 x165001 x165002) else (if x19 < (x17.length : Int) then (rEnds.l8 k x1 (x7.set (x19 : Int).toNat (rdOf false x17 x19)) x16 x17 true (wrap64 (x19 + 1)) x165000 x165001 x165002) else (none))) else (none)) else (if 0 ≤ x19 then (if x19 < (x17.length : Int) then (if rdOf false x17 x19 = true then (if rdOf false x7 x19 = true then (rEnds.l8 k x1 (x7.set (x19 : Int).toNat true) x16 x17 (!(rdOf false x7 x19)) (wrap64 (x19 + 1)) x165000 x165001 x165002) else (rEnds.l8 k x1 (x7.set (x19 : Int).toNat (rdOf false x17 x19)) x16 x17 (!(rdOf false x7 x19)) (wrap64 (x19 + 1)) x165000 x165001 x165002)) else (if rdOf false x7 x19 = true then (rEnds.l8 k x1 (x7.set (x19 : Int).toNat true) x16 x17 false (wrap64 (x19 + 1)) x165000 x165001 x165002) else (rEnds.l8 k x1 (x7.set (x19 : Int).toNat (rdOf false x17 x19)) x16 x17 false (wrap64 (x19 + 1)) x165000 x165001 x165002))) else (none)) else (none))) else (if x165000 = 5 then (some x7) else (if x18 = true then (rEnds.l7 k x1 x7 (wrap64 (x16 + 1)) x165000 x165001 x165002) else (some x7)))
def rEnds.f : Nat → Int → Int → List (S25) → List Int → List Bool → Option (List Bool)
  | 0, _, _, _, _, _ => none
  | k + 1, a0_0, a0_1, l0_2, l1, l2 => if 0 ≤ (wrap64 ((l1.length : Int) + 1)) then (if (wrap64 ((l1.length : Int) + 1) : Int).toNat ≤ 281474976710656 then ((some (List.replicate (wrap64 ((l1.length : Int) + 1) : Int).toNat false : List Bool)).bind fun y165 => (if a0_0 = 0 then (rEnds.l0 k l2 y165 0) else (if a0_0 = 1 then (rEnds.l1 k l1 l2 y165 0 a0_0 a0_1 l0_2) else (if a0_0 = 2 then (rEnds.l2 k l1 l2 y165 0 a0_0 a0_1 l0_2) else (if a0_0 = 3 then (rEnds.l4 k l1 l2 y165 0 a0_0 a0_1 l0_2) else (if a0_0 = 4 then (rEnds.j6 k l1 l2 y165 (a0_0 == 4) a0_0 a0_1 l0_2) else (rEnds.j6 k l1 l2 y165 (a0_0 == 5) a0_0 a0_1 l0_2))))))) else (none)) else (none)
end
end Go.Proofs.Ytbhkjaiaglkgjaa.PRegexTells
