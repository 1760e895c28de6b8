/- What the row's list gives: the table's cells hold its five texts. Condition: the row's own list. -/
import Derived.Test.YtdaeombjdagnbaaDoorCuts
import Derived.Test.YtdaeombjdagnbaaDoorRows
import Derived.OpenShut
import Derived.LaidLaws
namespace Go.Proofs.YtdaeombjdagnbaaDoor
open Go.ChangeShapes Go.WideShapes Go.RowKit

theorem gTab : Tryd.prog.globalNamed "reedpen/joining.features" = some 0 := by kernel_rfl
theorem gTabType : (Tryd.prog.globals[0]?).map (·.type) = some 38 := by kernel_rfl
theorem cells38 : Tryd.prog.cellsOf 38 = 5 := by kernel_rfl
theorem cells9 : Tryd.prog.cellsOf 9 = 1 := by kernel_rfl
theorem under38 : Tryd.prog.underlying 38 = some (.array 5 9) := by kernel_rfl

theorem table {W : World} (h : laidMet Tryd.prog [("reedpen/joining.features", Rows.laid_reedpen_joining_features)] W) : Table W := by
  obtain ⟨ps, ⟨g, t, cs, fuel, p, q, hg, ht, hvar, hd, _, _⟩, _⟩ := h
  obtain rfl := Option.some.inj (gTab.symm.trans hg)
  obtain rfl := Option.some.inj (gTabType.symm.trans ht)
  obtain ⟨xs, m, rfl, hx, hlen, hxl, hi⟩ := DataW.trod_array under38 hd
  rw [cells9] at hi
  rw [cells38] at hlen
  have hxs : xs.map (·.1) = [.lit (.string []), .lit (.string [105, 115, 111, 108]), .lit (.string [102, 105, 110, 97]), .lit (.string [109, 101, 100, 105]), .lit (.string [105, 110, 105, 116])] := by
    have := congrArg Prod.fst hx
    simp only [Rows.laid_reedpen_joining_features, DataW.agg.injEq] at this
    exact this.symm
  intro j hj
  have hc := World.var?_cell gTab hvar j
  rw [hc]
  have hj' := hi j hj
  have hxj : j < xs.length := by omega
  rw [List.getElem?_eq_getElem hxj] at hj'
  obtain ⟨s, hs, hy, _⟩ := DataW.trod_string Tryd.underlying9 hj'
  have hcj : cs[j]? = some (.string s) := by
    have := congrArg (·[0]?) hs
    simpa [List.getElem?_take, List.getElem?_drop] using this
  have hds : (xs.map (·.1))[j]? = some (.lit (.string s.data.toList)) := by rw [List.getElem?_map, List.getElem?_eq_getElem hxj, hy]; rfl
  rw [hxs] at hds
  have hs' : s = feat j := by
    have key : ∀ l : List UInt8, s.data.toList = l → s = ⟨l.toArray⟩ := fun l e => by
      cases s with
      | mk d => simp only [] at e; rw [← e]
    match j, hj with
    | 0, _ => simp at hds; rw [key [] (by rw [hds])]; rfl
    | 1, _ => simp at hds; rw [key _ hds.symm]; rfl
    | 2, _ => simp at hds; rw [key _ hds.symm]; rfl
    | 3, _ => simp at hds; rw [key _ hds.symm]; rfl
    | 4, _ => simp at hds; rw [key _ hds.symm]; rfl
  rw [← hs']
  simpa using hcj
end Go.Proofs.YtdaeombjdagnbaaDoor
namespace Go.Proofs.YtdaeombjdagnbaaDoor
theorem tableH {W : World} (h : laidMetH Tryd.prog Rows.joiningFormsRow.laid W) : Table W := table h
theorem table_pos {W : World} (h : Table W) : 0 < W.heap.size := World.block_lt_of_cell? W ⟨0, 0, none⟩ (h 0 (by decide))
end Go.Proofs.YtdaeombjdagnbaaDoor
