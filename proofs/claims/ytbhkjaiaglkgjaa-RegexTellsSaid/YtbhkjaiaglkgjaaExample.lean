/- What the calls of example and alive answer. Condition: none. -/
import Derived.Test.YtbhkjaiaglkgjaaWraps
namespace Go.Proofs.Ytbhkjaiaglkgjaa
open Go.RowKit Go.Proofs.YtbhkjaiaglkgjaaW.PrintWords Go.Proofs.YtbhkjaiaglkgjaaW.PrintLast Go.Proofs.YtbhkjaiaglkgjaaW.PrintMore
open PRegexTells

section
variable {P : Program} {ops : Array Oper} {rest : List Oper} {o : Oper} {a : Act} {Q : Exit → Act → World → Prop}
theorem row_event {W : World} (hgd : o.guard = none) {N : Tmp} (_hd : o.dst = some N) {cs : Array Value} {t n : Nat}
    (hrun : (execOp a.eval o).run P W = .ok (.value (.slice (some ⟨W.heap.size, 0, none⟩) n n)) (W.alloc (.cells cs t (0, 0))))
    (h : ∀ g, g = W.heap.size → ∀ w1, w1.heap[g]? = some (.cells cs t (0, 0)) → Below W.heap.size W w1 → wpList P ops Q rest (a.put o.dst (.slice (some ⟨g, 0, none⟩) n n)) w1) : wpList P ops Q (o :: rest) a W :=
  Kd.event_run hgd hrun (h _ rfl _ (blk_new W _) (below_alloc (Below.refl _ _) _))
end

theorem C25_blk {w : World} {g : Nat} {xs : List S25} {cs : List Value} (h : w.heap[g]? = some (.cells cs.toArray 25 (0, 0))) (hR : Reps (k25.K w) 3 xs cs) (hn : xs.length ≤ 1000) : Kd.C k25 w (some ⟨g, 0, none⟩) xs.length xs := by
  refine ⟨rfl, by omega, fun _ => ⟨_, rfl, fun j p hj => ⟨(cs.drop (j * 3)).take 3, ?_, hR.2 j p hj, fun i u hu => ?_⟩⟩⟩
  · have hl := hR.1
    have hj' : j < xs.length := (List.getElem?_eq_some_iff.1 hj).1
    show _ = 3
    rw [List.length_take, List.length_drop]
    omega
  · have hi : i < 3 := by
      have := (List.getElem?_eq_some_iff.1 hu).1
      rw [List.length_take] at this; omega
    rw [List.getElem?_take_of_lt hi, List.getElem?_drop] at hu
    have := blk_cell h (j * 3 + i)
    rw [show ((⟨g, 0, none⟩ : Addr).add (j * k25.sz + i)) = ⟨g, j * 3 + i, none⟩ by rw [add_plain]; rfl, this]
    simpa using hu

def exKid : List S25 := [⟨1, 4, []⟩]
def exKids : List S25 := [⟨1, 2, []⟩, ⟨4, 0, exKid⟩]
def exT : S25 := ⟨2, 0, exKids⟩

set_option maxHeartbeats 1600000 in
set_option maxRecDepth 100000 in
theorem example_calls (w : World) :
    Calls Try.prog 24 #[] w fun e w' => ∃ A c, e = .returned (.agg #[.int .u8 2, .int .u16 0, .slice A 2 c]) ∧ 2 ≤ c ∧ Kd.C k25 w' A 2 exKids ∧ Below w.heap.size w w' := by
  have hu25 := Try.underlying25
  go_enter Try.func24, Try.ntmps24
  go_wp2_with (first | (((with_reducible refine gate_dst (N := 0) rfl ?_); refine box_event ?hg (N := 0) ?hd (cs := #[.int .u8 0, .int .u16 0, .slice none 0 0]) (t := 25) ?hr ?_; (case hd => rfl); (case hg => rfl); (case hr => first | (go_simp; done) | (go_simp; rfl)); intro gr hgr w1 hbox hb); have HX1 := Aside0.mk hbox; have HB1 := Aside0.mk hb; have HG := Aside0.mk (show w.heap.size ≤ gr by rw [hgr]; exact Nat.le_refl _); clear hgr hbox hb) | (((with_reducible refine gate_dst (N := 1) rfl ?_); refine box_event ?hg (N := 1) ?hd (cs := #[.int .u8 0, .int .u16 0, .slice none 0 0]) (t := 25) ?hr ?_; (case hd => rfl); (case hg => rfl); (case hr => first | (go_simp; done) | (go_simp; rfl)); intro gt hgt w2 hbox hb); have HX2 := Aside0.mk hbox; have HN := Aside0.mk (show gr ≠ gt by rw [hgt]; exact Nat.ne_of_lt (blk_lt HX1.out)); have HX12 := Aside0.mk (blk_below HX1.out hb); have HB2 := Aside0.mk (below_in HB1.out hb); have HG2 := Aside0.mk (show w.heap.size ≤ gt by rw [hgt]; exact HB1.out.size); have z0 : w2.cell? ⟨gt, 0, none⟩ = some (.int .u8 0) := (blk_cell HX2.out 0).trans rfl; have z1 : w2.cell? ⟨gt, 1, none⟩ = some (.int .u16 0) := (blk_cell HX2.out 1).trans rfl; have z2 : w2.cell? ⟨gt, 2, none⟩ = some (.slice none 0 0) := (blk_cell HX2.out 2).trans rfl; have f0 := blk_frozen HX2.out 0; have f1 := blk_frozen HX2.out 1; have f2 := blk_frozen HX2.out 2; clear hgt hbox hb) | ((with_reducible refine gate_dst (N := 5) rfl ?_); refine row_event ?hg (N := 5) ?hd (cs := #[.int .u8 1, .int .u16 4, .slice none 0 0]) (t := 25) (n := 1) ?hr ?_; (case hd => rfl); (case hg => rfl); (case hr => first | (go_simp; done) | (go_simp; rfl)); intro g5 hg5 w5 hbox hb; have HX5 := Aside0.mk hbox; have HX15 := Aside0.mk (blk_below (blk_far (blk_far (blk_far HX12.out HN.out _) HN.out _) HN.out _) hb); have HB5 := Aside0.mk (below_in (below_set' (below_set' (below_set' HB2.out HG2.out _ _) HG2.out _ _) HG2.out _ _) hb); have HN5 := Aside0.mk (show g5 ≠ gr by rw [hg5]; exact Nat.ne_of_gt (blk_lt (blk_far (blk_far (blk_far HX12.out HN.out (.int .u8 1)) HN.out (.int .u16 4)) HN.out (.slice none 0 0)))); clear hg5 hbox hb z0 z1 z2 f0 f1 f2) | ((with_reducible refine gate_dst (N := 7) rfl ?_); refine row_event ?hg (N := 7) ?hd (cs := #[.int .u8 1, .int .u16 2, .slice none 0 0, .int .u8 4, .int .u16 0, .slice (some ⟨g5, 0, none⟩) 1 1]) (t := 25) (n := 2) ?hr ?_; (case hd => rfl); (case hg => rfl); (case hr => first | (go_simp; done) | (go_simp; rfl)); intro g7 hg7 w7 hbox hb; have HX7 := Aside0.mk hbox; have HX17 := Aside0.mk (blk_below HX15.out hb); have HX57 := Aside0.mk (blk_below HX5.out hb); have HB7 := Aside0.mk (below_in HB5.out hb); have HN7 := Aside0.mk (show g7 ≠ gr by rw [hg7]; exact Nat.ne_of_gt (blk_lt HX15.out)); have z0 : w7.cell? ⟨gr, 0, none⟩ = some (.int .u8 0) := (blk_cell HX17.out 0).trans rfl; have z1 : w7.cell? ⟨gr, 1, none⟩ = some (.int .u16 0) := (blk_cell HX17.out 1).trans rfl; have z2 : w7.cell? ⟨gr, 2, none⟩ = some (.slice none 0 0) := (blk_cell HX17.out 2).trans rfl; have f0 := blk_frozen HX17.out 0; have f1 := blk_frozen HX17.out 1; have f2 := blk_frozen HX17.out 2; clear hg7 hbox hb))
  refine bodyPost_ret (results_cell_row rfl _ _ gr 25 #[.int .u8 2, .int .u16 0, .slice (some ⟨g7, 0, none⟩) 2 2] (0, 0) _ rfl (by refine blk_put (cs := #[.int .u8 2, .int .u16 0, .slice none 0 0]) ?_ 2 _ rfl; refine blk_put (cs := #[.int .u8 2, .int .u16 0, .slice none 0 0]) ?_ 1 _ rfl; refine blk_put (cs := #[.int .u8 0, .int .u16 0, .slice none 0 0]) ?_ 0 _ rfl; exact HX17.out) Try.underlying25 rfl (by kernel_rfl)) rfl ?_
  refine ⟨some ⟨g7, 0, none⟩, 2, rfl, Nat.le_refl _, ?_, below_set' (below_set' (below_set' HB7.out HG.out _ _) HG.out _ _) HG.out _ _⟩
  have far : ∀ (W : World) (g : Nat) (cs : Array Value), g ≠ gr → W.heap[g]? = some (.cells cs 25 (0, 0)) → ∀ u v t, (((W.setCell ⟨gr, 0, none⟩ u).setCell ⟨gr, 1, none⟩ v).setCell ⟨gr, 2, none⟩ t).heap[g]? = some (.cells cs 25 (0, 0)) := fun W g cs hg h u v t => blk_far (blk_far (blk_far h hg u) hg v) hg t
  have h5 := far _ g5 _ HN5.out HX57.out (.int .u8 2) (.int .u16 0) (.slice (some ⟨g7, 0, none⟩) 2 2)
  have h7 := far _ g7 _ HN7.out HX7.out (.int .u8 2) (.int .u16 0) (.slice (some ⟨g7, 0, none⟩) 2 2)
  have k1 := C25_blk (xs := exKid) (cs := [.int .u8 1, .int .u16 4, .slice none 0 0]) h5 (Reps.c3 (k25_mk _ (⟨1, 4, []⟩ : S25) (Nat.le_refl _) (Kd.C_nil _ _)) (Reps.none _ _)) (by decide)
  exact C25_blk (xs := exKids) (cs := [.int .u8 1, .int .u16 2, .slice none 0 0, .int .u8 4, .int .u16 0, .slice (some ⟨g5, 0, none⟩) 1 1]) h7 (Reps.c3 (k25_mk _ (⟨1, 2, []⟩ : S25) (Nat.le_refl _) (Kd.C_nil _ _)) (Reps.c3 (k25_mk _ (⟨4, 0, exKid⟩ : S25) (Nat.le_refl _) k1) (Reps.none _ _))) (by decide)
end Go.Proofs.Ytbhkjaiaglkgjaa

