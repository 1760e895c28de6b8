/- What the row's list gives: the table's block holds its eighteen numbers. Condition: the row's own list. -/
import Derived.Test.YtloidjfcelbpmaaDoorRows
import Derived.Test.YtloidjfcelbpmaaDoorWWords
import Derived.OpenShut
import Derived.LaidLaws
import Derived.Lib.LaidTab
namespace Go.Proofs.YtloidjfcelbpmaaDoor
open Go.ChangeShapes Go.WideShapes Go.RowKit

def tabL : List Int := [4352, 4447, 1, 43360, 43388, 1, 4448, 4519, 2, 55216, 55238, 2, 4520, 4607, 3, 55243, 55291, 3]
/-- The table's block. -/
def Table (w : World) : Prop := ∃ t fr, w.heap[0]? = some (.cells #[.int .i32 4352, .int .i32 4447, .int .i32 1, .int .i32 43360, .int .i32 43388, .int .i32 1, .int .i32 4448, .int .i32 4519, .int .i32 2, .int .i32 55216, .int .i32 55238, .int .i32 2, .int .i32 4520, .int .i32 4607, .int .i32 3, .int .i32 55243, .int .i32 55291, .int .i32 3] t fr)
theorem Table.below {B : Nat} {w w' : World} (h : Table w) (hB : 0 < B) (hb : Below B w w') : Table w' := by
  obtain ⟨t, fr, h⟩ := h
  exact ⟨t, fr, (hb.block 0 hB).trans h⟩
theorem Table.pos {w : World} (h : Table w) : 0 < w.heap.size := by
  obtain ⟨t, fr, h⟩ := h
  exact (Array.getElem?_eq_some_iff.1 h).1
theorem gTab : Tryd.prog.globalNamed "reedpen/hangul.ranges" = some 0 := by kernel_rfl
theorem gTabType : (Tryd.prog.globals[0]?).map (·.type) = some 39 := by kernel_rfl
theorem cells39 : Tryd.prog.cellsOf 39 = 18 := by kernel_rfl
theorem cells38 : Tryd.prog.cellsOf 38 = 3 := by kernel_rfl
theorem cells21 : Tryd.prog.cellsOf 21 = 1 := by kernel_rfl
theorem under39 : Tryd.prog.underlying 39 = some (.array 6 38) := by kernel_rfl
theorem under38 : Tryd.prog.underlying 38 = some (.array 3 21) := by kernel_rfl

theorem table {W : World} (h : laidMet Tryd.prog [("reedpen/hangul.ranges", Rows.laid_reedpen_hangul_ranges)] W) : Table W := by
  obtain ⟨ps, ⟨g, t, cs, fuel, p, q, hg, ht, hvar, hd, _, _⟩, _⟩ := h
  obtain rfl := Option.some.inj (gTab.symm.trans hg)
  obtain rfl := Option.some.inj (gTabType.symm.trans ht)
  obtain ⟨xs, m, rfl, hx, hlen, hxl, hi⟩ := DataW.trod_array under39 hd
  rw [cells38] at hi
  rw [cells39] at hlen
  have hxs : xs.map (·.1) = [Lib.tabData .i32 [4352, 4447, 1], Lib.tabData .i32 [43360, 43388, 1], Lib.tabData .i32 [4448, 4519, 2], Lib.tabData .i32 [55216, 55238, 2], Lib.tabData .i32 [4520, 4607, 3], Lib.tabData .i32 [55243, 55291, 3]] := by
    have := congrArg Prod.fst hx
    simp only [Rows.laid_reedpen_hangul_ranges, DataW.agg.injEq] at this
    exact this.symm
  have key : ∀ (j : Nat) (zs : List Int), (xs.map (·.1))[j]? = some (Lib.tabData .i32 zs) → (cs.toList.drop (j * 3)).take 3 = zs.map fun z => Value.int .i32 z := by
    intro j zs hz
    have hjl : j < xs.length := by
      have := (List.getElem?_eq_some_iff.1 hz).1
      simpa using this
    have hj := hi j (by omega)
    rw [List.getElem?_eq_getElem hjl] at hj
    have hz1 : (xs[j]).1 = Lib.tabData .i32 zs := by
      rw [List.getElem?_map, List.getElem?_eq_getElem hjl] at hz
      simpa using hz
    have hz2 : xs[j] = (Lib.tabData .i32 zs, (xs[j]).2) := by rw [← hz1]
    rw [hz2] at hj
    exact Lib.cells_of_tab under38 Tryd.underlying21 cells21 cells38 hj
  have k0 := key 0 _ (by rw [hxs]; rfl)
  have k1 := key 1 _ (by rw [hxs]; rfl)
  have k2 := key 2 _ (by rw [hxs]; rfl)
  have k3 := key 3 _ (by rw [hxs]; rfl)
  have k4 := key 4 _ (by rw [hxs]; rfl)
  have k5 := key 5 _ (by rw [hxs]; rfl)
  have hcs : cs.toList = tabL.map fun z => Value.int .i32 z := by
    have split3 : ∀ (l : List Value) (n : Nat), l.drop n = (l.drop n).take 3 ++ l.drop (n + 3) := fun l n => by
      conv => lhs; rw [← List.take_append_drop 3 (l.drop n)]
      rw [List.drop_drop]
    have e : cs.toList = cs.toList.drop 0 := rfl
    rw [e, split3 _ 0, split3 _ (0 + 3), split3 _ (0 + 3 + 3), split3 _ (0 + 3 + 3 + 3), split3 _ (0 + 3 + 3 + 3 + 3), split3 _ (0 + 3 + 3 + 3 + 3 + 3)]
    rw [List.drop_eq_nil_of_le (i := 0 + 3 + 3 + 3 + 3 + 3 + 3) (by have := hlen; simp at this ⊢; omega)]
    simp only [Nat.zero_mul, Nat.one_mul] at k0 k1
    rw [k0, show 0 + 3 = 3 from rfl, k1, show 3 + 3 = 2 * 3 from rfl, k2, show 2 * 3 + 3 = 3 * 3 from rfl, k3, show 3 * 3 + 3 = 4 * 3 from rfl, k4, show 4 * 3 + 3 = 5 * 3 from rfl, k5]
    rfl
  unfold World.var? at hvar
  rw [gTab] at hvar
  simp only [Option.bind_some] at hvar
  split at hvar
  · rename_i cs' t' fr' hh
    obtain rfl := Option.some.inj hvar
    refine ⟨t', fr', hh.trans ?_⟩
    have hca : cs' = (tabL.map fun z => Value.int .i32 z).toArray := by rw [← hcs]
    rw [hca]
    rfl
  · cases hvar
theorem tableH {W : World} (h : laidMetH Tryd.prog Rows.hangulPartsRow.laid W) : Table W := table h
end Go.Proofs.YtloidjfcelbpmaaDoor
