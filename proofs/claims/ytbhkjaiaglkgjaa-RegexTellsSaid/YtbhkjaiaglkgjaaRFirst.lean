/- What the call of the reference's First answers (by first.py out of the print). Condition: the function of fuel gives an answer. -/
import Derived.Test.YtbhkjaiaglkgjaaHas
namespace Go.Proofs.Ytbhkjaiaglkgjaa.PRegexTells
open Go.RowKit Go.Proofs.YtbhkjaiaglkgjaaW.PrintWords Go.Proofs.YtbhkjaiaglkgjaaW.PrintLast Go.Proofs.YtbhkjaiaglkgjaaW.PrintMore
attribute [local go_sem] max2_int min2_int max_two min_two max_three min_three max_four min_four   -- for this text's walks alone
set_option linter.unusedVariables false
set_option linter.unusedSimpArgs false
/-! ### reedpenref04_First: function 20 -/
mutual
def reedpenref04_First.l0 : Nat → Int → Int → Int → Int → List (S25) → Option (Int)
 | 0, _, _, _, _, _ => none
 | k + 1, x3, x4, x229000, x229001, x229002 => if x4 < (x229002.length : Int) then (reedpenref04_First.l1 k x3 x4 true 0 x229000 x229001 x229002) else (some x3)
def reedpenref04_First.l1 : Nat → Int → Int → Bool → Int → Int → Int → List (S25) → Option (Int)
 | 0, _, _, _, _, _, _, _ => none
 | k + 1, x3, x4, x5, x6, x229000, x229001, x229002 => if x6 < x4 then (if x229000 = 2 then (if x5 = true then (if 0 ≤ x6 then (if x6 < (x229002.length : Int) then ((reedpenref04_Has.f k ((rd_T25 x229002 x6).f0) ((rd_T25 x229002 x6).f1) ((rd_T25 x229002 x6).f2) ([] : List Int)).bind fun t230 => (reedpenref04_First.l1 k x3 x4 t230 (wrap64 (x6 + 1)) x229000 x229001 x229002)) else (none)) else (none)) else (reedpenref04_First.l1 k x3 x4 false (wrap64 (x6 + 1)) x229000 x229001 x229002)) else (if x5 = true then (if 0 ≤ x4 then (if x4 < (x229002.length : Int) then ((reedpenref04_First.f k ((rd_T25 x229002 x4).f0) ((rd_T25 x229002 x4).f1) ((rd_T25 x229002 x4).f2)).bind fun t232 => (reedpenref04_First.l0 k (Go.bits .or .u16 x3 t232) (wrap64 (x4 + 1)) x229000 x229001 x229002)) else (none)) else (none)) else (reedpenref04_First.l0 k x3 (wrap64 (x4 + 1)) x229000 x229001 x229002))) else (if x5 = true then (if 0 ≤ x4 then (if x4 < (x229002.length : Int) then ((reedpenref04_First.f k ((rd_T25 x229002 x4).f0) ((rd_T25 x229002 x4).f1) ((rd_T25 x229002 x4).f2)).bind fun t234 => (reedpenref04_First.l0 k (Go.bits .or .u16 x3 t234) (wrap64 (x4 + 1)) x229000 x229001 x229002)) else (none)) else (none)) else (reedpenref04_First.l0 k x3 (wrap64 (x4 + 1)) x229000 x229001 x229002))
def reedpenref04_First.f : Nat → Int → Int → List (S25) → Option (Int)
 | 0, _, _, _ => none
 | k + 1, a0_0, a0_1, l0_2 => if a0_0 = 1 then (some a0_1) else (reedpenref04_First.l0 k 0 0 a0_0 a0_1 l0_2)
end
set_option maxHeartbeats 8000000 in
set_option maxRecDepth 100000 in
theorem reedpenref04_First.calls (k : Nat) : ∀ (a0_0 : Int) (a0_1 : Int) (A0_2 : Option Addr) (c0_2 : Nat) (l0_2 : List (S25)) (r : Int) (w : World) (hr0_2 : Kd.C k25 w A0_2 l0_2.length l0_2) (hc0_2 : l0_2.length ≤ c0_2) (h : reedpenref04_First.f k a0_0 a0_1 l0_2 = some r),
  Calls Try.prog 20 #[.agg #[.int .u8 a0_0, .int .u16 a0_1, .slice A0_2 l0_2.length c0_2]] w fun e w' => e = .returned (.int .u16 r) ∧ Below w.heap.size w w' := by
 induction k using Nat.strongRecOn with
 | _ k ih =>
 intro a0_0 a0_1 A0_2 c0_2 l0_2 r w hr0_2 hc0_2 h
 cases k with
 | zero => exact absurd h (by simp [reedpenref04_First.f])
 | succ k =>
 simp only [reedpenref04_First.f] at h
 have hu25 := Try.underlying25
 have HR0_2 := Aside0.mk hr0_2
 have HC0_2 := Aside0.mk hc0_2
 clear hr0_2 hc0_2
 have HB := Aside0.mk (Below.refl w.heap.size w)
 have H : (if a0_0 = 1 then (some a0_1) else (reedpenref04_First.l0 k 0 0 a0_0 a0_1 l0_2)) = some r := h
 clear h
 by_cases c2 : a0_0 = 1
 ·rw [if_pos c2] at H
  have c2b0 : (a0_0 == 1) = true := beq_iff_eq.mpr c2
  have c2b1 : (a0_0 != 1) = false := bne_eq_false_iff_eq.mpr c2
  clear c2
  obtain rfl := Option.some.inj H
  go_enter Try.func20, Try.ntmps20
  go_wp2_with (first | ((with_reducible refine gate_dst (N := 1) rfl ?_); refine box_event ?hg (N := 1) ?hd (cs := #[.int .u8 a0_0, .int .u16 a0_1, .slice A0_2 l0_2.length c0_2]) (t := 25) ?hr ?_; (case hd => rfl); (case hg => rfl); (case hr => first | (go_simp; done) | (go_simp; rfl)); intro gb228 hg w3 hbox hb; have n0_ := Aside0.mk (below_step (by repeat (first | (with_reducible first | exact HB.out | apply below_alloc | apply pw_below_drewN | apply below_drew1) | exact HB.out)) hb); have n1_ := Aside0.mk (hbox); have n2_ := Aside0.mk ((by rw [hg]; exact (below_size (by repeat (first | (with_reducible first | exact HB.out | apply below_alloc | apply pw_below_drewN | apply below_drew1) | exact HB.out))) : w.heap.size ≤ gb228)); have n3_ := Aside0.mk ((by rw [hg]; exact (below_size (by repeat (first | (with_reducible first | exact HB.out | apply below_alloc | apply pw_below_drewN | apply below_drew1) | exact HB.out))) : w.heap.size ≤ gb228)); clear HB; have HB := n0_; have BK228 := n1_; have GW228 := n2_; have GE228 := n3_; clear n0_ n1_ n2_ n3_; clear hb hbox hg; have hcz4_0 : w3.cell? ⟨gb228, 0, none⟩ = some (.int .u8 a0_0) := (blk_cell BK228.out 0).trans rfl; have hcz4_1 : w3.cell? ⟨gb228, 1, none⟩ = some (.int .u16 a0_1) := (blk_cell BK228.out 1).trans rfl; have hcz4_2 : w3.cell? ⟨gb228, 2, none⟩ = some (.slice A0_2 l0_2.length c0_2) := (blk_cell BK228.out 2).trans rfl; have hfz4_0 := blk_frozen BK228.out 0; have hfz4_1 := blk_frozen BK228.out 1; have hfz4_2 := blk_frozen BK228.out 2))
  go_ret
  exact ⟨by first | rfl | (simp [errW_none, errW_some] <;> rfl) | (simp [*, errW_none, errW_some] <;> rfl), by repeat (first | (with_reducible first | exact HB.out | apply below_alloc | apply pw_below_drewN | apply below_drew1 | refine below_set ?_ GE228.out) | exact HB.out)⟩
 ·rw [if_neg c2] at H
  have c2b0 : (a0_0 == 1) = false := beq_eq_false_iff_ne.mpr c2
  have c2b1 : (a0_0 != 1) = true := bne_iff_ne.mpr c2
  have H' := Aside0.mk H
  clear H
  go_enter Try.func20, Try.ntmps20
  go_wp2_with (first | ((with_reducible refine gate_dst (N := 1) rfl ?_); refine box_event ?hg (N := 1) ?hd (cs := #[.int .u8 a0_0, .int .u16 a0_1, .slice A0_2 l0_2.length c0_2]) (t := 25) ?hr ?_; (case hd => rfl); (case hg => rfl); (case hr => first | (go_simp; done) | (go_simp; rfl)); intro gb228 hg w5 hbox hb; have n0_ := Aside0.mk (below_step (by repeat (first | (with_reducible first | exact HB.out | apply below_alloc | apply pw_below_drewN | apply below_drew1) | exact HB.out)) hb); have n1_ := Aside0.mk (hbox); have n2_ := Aside0.mk ((by rw [hg]; exact (below_size (by repeat (first | (with_reducible first | exact HB.out | apply below_alloc | apply pw_below_drewN | apply below_drew1) | exact HB.out))) : w.heap.size ≤ gb228)); have n3_ := Aside0.mk ((by rw [hg]; exact (below_size (by repeat (first | (with_reducible first | exact HB.out | apply below_alloc | apply pw_below_drewN | apply below_drew1) | exact HB.out))) : w.heap.size ≤ gb228)); clear HB; have HB := n0_; have BK228 := n1_; have GW228 := n2_; have GE228 := n3_; clear n0_ n1_ n2_ n3_; clear hb hbox hg; have hcz6_0 : w5.cell? ⟨gb228, 0, none⟩ = some (.int .u8 a0_0) := (blk_cell BK228.out 0).trans rfl; have hcz6_1 : w5.cell? ⟨gb228, 1, none⟩ = some (.int .u16 a0_1) := (blk_cell BK228.out 1).trans rfl; have hcz6_2 : w5.cell? ⟨gb228, 2, none⟩ = some (.slice A0_2 l0_2.length c0_2) := (blk_cell BK228.out 2).trans rfl; have hfz6_0 := blk_frozen BK228.out 0; have hfz6_1 := blk_frozen BK228.out 1; have hfz6_2 := blk_frozen BK228.out 2))
  go_loopg [3, 4] k (fun kq v3 v4 w' => ∃ (x3_1 : Int) (x4_1 : Int), v3 = .int .u16 x3_1 ∧ v4 = .int .i64 x4_1 ∧ Aside0 (reedpenref04_First.l0 kq x3_1 x4_1 a0_0 a0_1 l0_2 = some r) ∧ Aside0 (kq ≤ k) ∧ Aside0 (w'.heap[gb228]? = some (.cells #[.int .u8 a0_0, .int .u16 a0_1, (.slice A0_2 l0_2.length c0_2)] 25 (0, 0))) ∧ Aside0 (Below w.heap.size w w'))
  case atStart => exact ⟨(0), (0), (by first | rfl | (simp; done) | (simp [*]; done)), (by first | rfl | (simp; done) | (simp [*]; done)), H', ⟨Nat.le_refl _⟩, ⟨by (with_reducible repeat (first | refine blk_drewN ?_ _ | refine blk_drew ?_ | refine blk_alloc ?_ _)); exact BK228.out⟩, ⟨by repeat (first | (with_reducible first | exact HB.out | apply below_alloc | apply pw_below_drewN | apply below_drew1 | refine below_set ?_ GE228.out) | exact HB.out)⟩⟩
  case round =>
   clear H'
   try clear c2
   try clear c2b0
   try clear c2b1
   try clear p2
   try clear hcz4_0
   try clear hcz4_1
   try clear hcz4_2
   try clear hcz6_0
   try clear hcz6_1
   try clear hcz6_2
   try clear hfz4_0
   try clear hfz4_1
   try clear hfz4_2
   try clear hfz6_0
   try clear hfz6_1
   try clear hfz6_2
   obtain ⟨x3_1, x4_1, rfl, rfl, HA, HK1, BK228, HB⟩ := hrel
   cases gk with
   | zero => exact absurd HA.out (by simp [reedpenref04_First.l0])
   | succ k1 =>
    have H := HA.out
    clear HA
    simp only [reedpenref04_First.l0] at H
    by_cases c7 : x4_1 < (l0_2.length : Int)
    ·rw [if_pos c7] at H
     have c7b0 : decide (x4_1 < (l0_2.length : Int)) = true := decide_eq_true c7
     clear c7
     have H' := Aside0.mk H
     clear H
     have hcz8_0 : wr.cell? ⟨gb228, 0, none⟩ = some (.int .u8 a0_0) := (blk_cell BK228.out 0).trans rfl
     have hcz8_1 : wr.cell? ⟨gb228, 1, none⟩ = some (.int .u16 a0_1) := (blk_cell BK228.out 1).trans rfl
     have hcz8_2 : wr.cell? ⟨gb228, 2, none⟩ = some (.slice A0_2 l0_2.length c0_2) := (blk_cell BK228.out 2).trans rfl
     have hfz8_0 := blk_frozen BK228.out 0
     have hfz8_1 := blk_frozen BK228.out 1
     have hfz8_2 := blk_frozen BK228.out 2
     go_wp2
     go_loopg [5, 6] k1 (fun kq v5 v6 w' => ∃ (x5_2 : Bool) (x6_2 : Int), v5 = .bool x5_2 ∧ v6 = .int .i64 x6_2 ∧ Aside0 (reedpenref04_First.l1 kq x3_1 x4_1 x5_2 x6_2 a0_0 a0_1 l0_2 = some r) ∧ Aside0 (kq ≤ k1) ∧ Aside0 (w'.heap[gb228]? = some (.cells #[.int .u8 a0_0, .int .u16 a0_1, (.slice A0_2 l0_2.length c0_2)] 25 (0, 0))) ∧ Aside0 (Below w.heap.size w w'))
     case atStart => exact ⟨(true), (0), (by first | rfl | (simp; done) | (simp [*]; done)), (by first | rfl | (simp; done) | (simp [*]; done)), H', ⟨Nat.le_refl _⟩, ⟨by (with_reducible repeat (first | refine blk_drewN ?_ _ | refine blk_drew ?_ | refine blk_alloc ?_ _)); exact BK228.out⟩, ⟨by repeat (first | (with_reducible first | exact HB.out | apply below_alloc | apply pw_below_drewN | apply below_drew1 | refine below_set ?_ GE228.out) | exact HB.out)⟩⟩
     case round =>
      clear H'
      try clear c2
      try clear c2b0
      try clear c2b1
      try clear p2
      try clear c7
      try clear c7b0
      try clear hcz4_0
      try clear hcz4_1
      try clear hcz4_2
      try clear hcz6_0
      try clear hcz6_1
      try clear hcz6_2
      try clear hcz8_0
      try clear hcz8_1
      try clear hcz8_2
      try clear hfz4_0
      try clear hfz4_1
      try clear hfz4_2
      try clear hfz6_0
      try clear hfz6_1
      try clear hfz6_2
      try clear hfz8_0
      try clear hfz8_1
      try clear hfz8_2
      try clear p2
      obtain ⟨x5_2, x6_2, rfl, rfl, HA, HK2, BK228, HB⟩ := hrel
      cases gk with
      | zero => exact absurd HA.out (by simp [reedpenref04_First.l1])
      | succ k2 =>
       have H := HA.out
       clear HA
       simp only [reedpenref04_First.l1] at H
       by_cases c9 : x6_2 < x4_1
       ·rw [if_pos c9] at H
        have c9b0 : decide (x6_2 < x4_1) = true := decide_eq_true c9
        clear c9
        by_cases c10 : a0_0 = 2
        ·rw [if_pos c10] at H
         have c10b0 : (a0_0 == 2) = true := beq_iff_eq.mpr c10
         have c10b1 : (a0_0 != 2) = false := bne_eq_false_iff_eq.mpr c10
         clear c10
         by_cases c11 : x5_2 = true
         ·subst c11
          have H1 : (if 0 ≤ x6_2 then (if x6_2 < (l0_2.length : Int) then ((reedpenref04_Has.f k2 ((rd_T25 l0_2 x6_2).f0) ((rd_T25 l0_2 x6_2).f1) ((rd_T25 l0_2 x6_2).f2) ([] : List Int)).bind fun t230 => (reedpenref04_First.l1 k2 x3_1 x4_1 t230 (wrap64 (x6_2 + 1)) a0_0 a0_1 l0_2)) else (none)) else (none)) = some r := by rw [if_pos rfl] at H; exact H
          clear H
          have H := H1
          clear H1
          by_cases c12 : 0 ≤ x6_2
          ·rw [if_pos c12] at H
           have c12b0 : decide (0 ≤ x6_2) = true := decide_eq_true c12
           clear c12
           by_cases c13 : x6_2 < (l0_2.length : Int)
           ·rw [if_pos c13] at H
            have c13b0 : decide (x6_2 < (l0_2.length : Int)) = true := decide_eq_true c13
            clear c13
            replace H := Option.bind_eq_some_iff.mp H
            obtain ⟨t230, A140, H⟩ := H
            replace H : (reedpenref04_First.l1 k2 x3_1 x4_1 t230 (wrap64 (x6_2 + 1)) a0_0 a0_1 l0_2) = some r := H
            have A14 := Aside0.mk A140
            clear A140
            have H' := Aside0.mk H
            clear H
            have hcz15_0 : wr.cell? ⟨gb228, 0, none⟩ = some (.int .u8 a0_0) := (blk_cell BK228.out 0).trans rfl
            have hcz15_1 : wr.cell? ⟨gb228, 1, none⟩ = some (.int .u16 a0_1) := (blk_cell BK228.out 1).trans rfl
            have hcz15_2 : wr.cell? ⟨gb228, 2, none⟩ = some (.slice A0_2 l0_2.length c0_2) := (blk_cell BK228.out 2).trans rfl
            have hfz15_0 := blk_frozen BK228.out 0
            have hfz15_1 := blk_frozen BK228.out 1
            have hfz15_2 := blk_frozen BK228.out 2
            have p229 : 0 ≤ (x6_2 : Int) := of_decide_eq_true (by first | (with_reducible assumption) | assumption)
            have q229 : x6_2 < (l0_2.length : Int) := of_decide_eq_true (by first | (with_reducible assumption) | assumption)
            obtain ⟨ad229, A229_2, c229_2, e229, hx229_0, hx229_1, hx229_2, hl229_2, hi229_2⟩ := at_T25 HR0_2.out x6_2 p229 q229
            cases e229
            replace hx229_0 := (HB.out.cell (World.block_lt_of_cell? w _ hx229_0)).trans hx229_0
            replace hx229_1 := (HB.out.cell (World.block_lt_of_cell? w _ hx229_1)).trans hx229_1
            replace hx229_2 := (HB.out.cell (World.block_lt_of_cell? w _ hx229_2)).trans hx229_2
            have HR229_2 := Aside0.mk hi229_2
            have HC229_2 := Aside0.mk hl229_2
            clear hi229_2 hl229_2
            replace p229 := eq_true p229
            replace q229 := eq_true q229
            go_wp2_with (first | (go_at_call 19; (refine (reedpenref04_Has.calls k2 ((rd_T25 l0_2 x6_2).f0) ((rd_T25 l0_2 x6_2).f1) _ _ ((rd_T25 l0_2 x6_2).f2) _ _ ([] : List Int) t230 _ ?side1 ?side2 ?side3 ?side4 A14.out).mono ?_); (case side1 => repeat (first | exact (Kd.C_below HR229_2.out HB.out) | (with_reducible refine Kd.C_alloc ?_ _) | (with_reducible refine Kd.C_drewN ?_ _) | (with_reducible refine Kd.C_drew ?_))); (case side2 => exact HC229_2.out); (case side3 => exact Kd.C_nil _ _); (case side4 => exact Nat.le_refl _); rintro e w16 ⟨rfl, hb⟩; have n0_ := Aside0.mk (blk_below (g := gb228) (o := .cells #[.int .u8 a0_0, .int .u16 a0_1, .slice (some ad229) l0_2.length c0_2] 25 (0, 0)) (by (with_reducible repeat (first | refine blk_drewN ?_ _ | refine blk_drew ?_ | refine blk_alloc ?_ _)); exact BK228.out) hb); have n1_ := Aside0.mk (below_step (by repeat (first | (with_reducible first | exact HB.out | apply below_alloc | apply pw_below_drewN | apply below_drew1 | refine below_set ?_ GE228.out) | exact HB.out)) hb); clear BK228; clear HB; have BK228 := n0_; have HB := n1_; clear n0_ n1_; (try clear hb); (try clear hb2); (try clear hk); (try clear hi)))
            go_roundg k2
            case measure => have := HK1.out; have := HK2.out; omega
            case rel => exact ⟨(t230), (wrap64 (x6_2 + 1)), (by first | rfl | (simp; done) | (simp [*]; done)), (by first | rfl | (simp; done) | (simp [*]; done)), H', ⟨by have := HK1.out; have := HK2.out; omega⟩, ⟨by (with_reducible repeat (first | refine blk_drewN ?_ _ | refine blk_drew ?_ | refine blk_alloc ?_ _)); exact BK228.out⟩, ⟨by repeat (first | (with_reducible first | exact HB.out | apply below_alloc | apply pw_below_drewN | apply below_drew1 | refine below_set ?_ GE228.out) | exact HB.out)⟩⟩
           ·rw [if_neg c13] at H
            exact absurd H (by simp)
          ·rw [if_neg c12] at H
           exact absurd H (by simp)
         ·replace c11 := Bool.eq_false_iff.mpr c11
          subst c11
          have H1 : (reedpenref04_First.l1 k2 x3_1 x4_1 false (wrap64 (x6_2 + 1)) a0_0 a0_1 l0_2) = some r := by rw [if_neg (show ¬ (false = true) by decide)] at H; exact H
          clear H
          have H := H1
          clear H1
          have H' := Aside0.mk H
          clear H
          have hcz17_0 : wr.cell? ⟨gb228, 0, none⟩ = some (.int .u8 a0_0) := (blk_cell BK228.out 0).trans rfl
          have hcz17_1 : wr.cell? ⟨gb228, 1, none⟩ = some (.int .u16 a0_1) := (blk_cell BK228.out 1).trans rfl
          have hcz17_2 : wr.cell? ⟨gb228, 2, none⟩ = some (.slice A0_2 l0_2.length c0_2) := (blk_cell BK228.out 2).trans rfl
          have hfz17_0 := blk_frozen BK228.out 0
          have hfz17_1 := blk_frozen BK228.out 1
          have hfz17_2 := blk_frozen BK228.out 2
          go_wp2
          go_roundg k2
          case measure => have := HK1.out; have := HK2.out; omega
          case rel => exact ⟨(false), (wrap64 (x6_2 + 1)), (by first | rfl | (simp; done) | (simp [*]; done)), (by first | rfl | (simp; done) | (simp [*]; done)), H', ⟨by have := HK1.out; have := HK2.out; omega⟩, ⟨by (with_reducible repeat (first | refine blk_drewN ?_ _ | refine blk_drew ?_ | refine blk_alloc ?_ _)); exact BK228.out⟩, ⟨by repeat (first | (with_reducible first | exact HB.out | apply below_alloc | apply pw_below_drewN | apply below_drew1 | refine below_set ?_ GE228.out) | exact HB.out)⟩⟩
        ·rw [if_neg c10] at H
         have c10b0 : (a0_0 == 2) = false := beq_eq_false_iff_ne.mpr c10
         have c10b1 : (a0_0 != 2) = true := bne_iff_ne.mpr c10
         by_cases c18 : x5_2 = true
         ·subst c18
          have H1 : (if 0 ≤ x4_1 then (if x4_1 < (l0_2.length : Int) then ((reedpenref04_First.f k2 ((rd_T25 l0_2 x4_1).f0) ((rd_T25 l0_2 x4_1).f1) ((rd_T25 l0_2 x4_1).f2)).bind fun t232 => (reedpenref04_First.l0 k2 (Go.bits .or .u16 x3_1 t232) (wrap64 (x4_1 + 1)) a0_0 a0_1 l0_2)) else (none)) else (none)) = some r := by rw [if_pos rfl] at H; exact H
          clear H
          have H := H1
          clear H1
          by_cases c19 : 0 ≤ x4_1
          ·rw [if_pos c19] at H
           have c19b0 : decide (0 ≤ x4_1) = true := decide_eq_true c19
           clear c19
           by_cases c20 : x4_1 < (l0_2.length : Int)
           ·rw [if_pos c20] at H
            have c20b0 : decide (x4_1 < (l0_2.length : Int)) = true := decide_eq_true c20
            clear c20
            replace H := Option.bind_eq_some_iff.mp H
            obtain ⟨t232, A210, H⟩ := H
            replace H : (reedpenref04_First.l0 k2 (Go.bits .or .u16 x3_1 t232) (wrap64 (x4_1 + 1)) a0_0 a0_1 l0_2) = some r := H
            have A21 := Aside0.mk A210
            clear A210
            have H' := Aside0.mk H
            clear H
            have hcz22_0 : wr.cell? ⟨gb228, 0, none⟩ = some (.int .u8 a0_0) := (blk_cell BK228.out 0).trans rfl
            have hcz22_1 : wr.cell? ⟨gb228, 1, none⟩ = some (.int .u16 a0_1) := (blk_cell BK228.out 1).trans rfl
            have hcz22_2 : wr.cell? ⟨gb228, 2, none⟩ = some (.slice A0_2 l0_2.length c0_2) := (blk_cell BK228.out 2).trans rfl
            have hfz22_0 := blk_frozen BK228.out 0
            have hfz22_1 := blk_frozen BK228.out 1
            have hfz22_2 := blk_frozen BK228.out 2
            have p231 : 0 ≤ (x4_1 : Int) := of_decide_eq_true (by first | (with_reducible assumption) | assumption)
            have q231 : x4_1 < (l0_2.length : Int) := of_decide_eq_true (by first | (with_reducible assumption) | assumption)
            obtain ⟨ad231, A231_2, c231_2, e231, hx231_0, hx231_1, hx231_2, hl231_2, hi231_2⟩ := at_T25 HR0_2.out x4_1 p231 q231
            cases e231
            replace hx231_0 := (HB.out.cell (World.block_lt_of_cell? w _ hx231_0)).trans hx231_0
            replace hx231_1 := (HB.out.cell (World.block_lt_of_cell? w _ hx231_1)).trans hx231_1
            replace hx231_2 := (HB.out.cell (World.block_lt_of_cell? w _ hx231_2)).trans hx231_2
            have HR231_2 := Aside0.mk hi231_2
            have HC231_2 := Aside0.mk hl231_2
            clear hi231_2 hl231_2
            replace p231 := eq_true p231
            replace q231 := eq_true q231
            go_wp2_with (first | ((with_reducible refine gate_callee (f := 20) rfl ?_); refine goesL_ (some 45) rfl rfl Try.func20 (by kernel_rfl) rfl #[.agg #[.int .u8 ((rd_T25 l0_2 x4_1).f0), .int .u16 ((rd_T25 l0_2 x4_1).f1), .slice A231_2 ((rd_T25 l0_2 x4_1).f2).length c231_2]] rfl (by (try simp only [List.map_toArray, List.map_cons, List.map_nil]); first | done | rfl | (simp only [List.length_drop, List.length_take]; rfl)) ?_; (with_reducible refine (ih k2 (by have := HK1.out; have := HK2.out; omega) ((rd_T25 l0_2 x4_1).f0) ((rd_T25 l0_2 x4_1).f1) _ _ ((rd_T25 l0_2 x4_1).f2) t232 _ ?side1 ?side2 A21.out).mono ?_); (case side1 => repeat (first | exact (Kd.C_below HR231_2.out HB.out) | (with_reducible refine Kd.C_alloc ?_ _) | (with_reducible refine Kd.C_drewN ?_ _) | (with_reducible refine Kd.C_drew ?_))); (case side2 => exact HC231_2.out); rintro e w23 ⟨rfl, hb⟩; refine ⟨_, rfl, ?_⟩; have n0_ := Aside0.mk (blk_below (g := gb228) (o := .cells #[.int .u8 a0_0, .int .u16 a0_1, .slice (some ad231) l0_2.length c0_2] 25 (0, 0)) (by (with_reducible repeat (first | refine blk_drewN ?_ _ | refine blk_drew ?_ | refine blk_alloc ?_ _)); exact BK228.out) hb); have n1_ := Aside0.mk (below_step (by repeat (first | (with_reducible first | exact HB.out | apply below_alloc | apply pw_below_drewN | apply below_drew1 | refine below_set ?_ GE228.out) | exact HB.out)) hb); clear BK228; clear HB; have BK228 := n0_; have HB := n1_; clear n0_ n1_; (try clear hb); (try clear hb2); (try clear hk); (try clear hi)))
            go_roundg k2
            case measure => have := HK1.out; have := HK2.out; omega
            case rel => exact ⟨(Go.bits .or .u16 x3_1 t232), (wrap64 (x4_1 + 1)), (by first | rfl | (simp; done) | (simp [*]; done)), (by first | rfl | (simp; done) | (simp [*]; done)), H', ⟨by have := HK1.out; have := HK2.out; omega⟩, ⟨by (with_reducible repeat (first | refine blk_drewN ?_ _ | refine blk_drew ?_ | refine blk_alloc ?_ _)); exact BK228.out⟩, ⟨by repeat (first | (with_reducible first | exact HB.out | apply below_alloc | apply pw_below_drewN | apply below_drew1 | refine below_set ?_ GE228.out) | exact HB.out)⟩⟩
           ·rw [if_neg c20] at H
            exact absurd H (by simp)
          ·rw [if_neg c19] at H
           exact absurd H (by simp)
         ·replace c18 := Bool.eq_false_iff.mpr c18
          subst c18
          have H1 : (reedpenref04_First.l0 k2 x3_1 (wrap64 (x4_1 + 1)) a0_0 a0_1 l0_2) = some r := by rw [if_neg (show ¬ (false = true) by decide)] at H; exact H
          clear H
          have H := H1
          clear H1
          have H' := Aside0.mk H
          clear H
          have hcz24_0 : wr.cell? ⟨gb228, 0, none⟩ = some (.int .u8 a0_0) := (blk_cell BK228.out 0).trans rfl
          have hcz24_1 : wr.cell? ⟨gb228, 1, none⟩ = some (.int .u16 a0_1) := (blk_cell BK228.out 1).trans rfl
          have hcz24_2 : wr.cell? ⟨gb228, 2, none⟩ = some (.slice A0_2 l0_2.length c0_2) := (blk_cell BK228.out 2).trans rfl
          have hfz24_0 := blk_frozen BK228.out 0
          have hfz24_1 := blk_frozen BK228.out 1
          have hfz24_2 := blk_frozen BK228.out 2
          go_wp2
          go_roundg k2
          case measure => have := HK1.out; have := HK2.out; omega
          case rel => exact ⟨(x3_1), (wrap64 (x4_1 + 1)), (by first | rfl | (simp; done) | (simp [*]; done)), (by first | rfl | (simp; done) | (simp [*]; done)), H', ⟨by have := HK1.out; have := HK2.out; omega⟩, ⟨by (with_reducible repeat (first | refine blk_drewN ?_ _ | refine blk_drew ?_ | refine blk_alloc ?_ _)); exact BK228.out⟩, ⟨by repeat (first | (with_reducible first | exact HB.out | apply below_alloc | apply pw_below_drewN | apply below_drew1 | refine below_set ?_ GE228.out) | exact HB.out)⟩⟩
       ·rw [if_neg c9] at H
        have c9b0 : decide (x6_2 < x4_1) = false := decide_eq_false c9
        clear c9
        by_cases c25 : x5_2 = true
        ·subst c25
         have H1 : (if 0 ≤ x4_1 then (if x4_1 < (l0_2.length : Int) then ((reedpenref04_First.f k2 ((rd_T25 l0_2 x4_1).f0) ((rd_T25 l0_2 x4_1).f1) ((rd_T25 l0_2 x4_1).f2)).bind fun t234 => (reedpenref04_First.l0 k2 (Go.bits .or .u16 x3_1 t234) (wrap64 (x4_1 + 1)) a0_0 a0_1 l0_2)) else (none)) else (none)) = some r := by rw [if_pos rfl] at H; exact H
         clear H
         have H := H1
         clear H1
         by_cases c26 : 0 ≤ x4_1
         ·rw [if_pos c26] at H
          have c26b0 : decide (0 ≤ x4_1) = true := decide_eq_true c26
          clear c26
          by_cases c27 : x4_1 < (l0_2.length : Int)
          ·rw [if_pos c27] at H
           have c27b0 : decide (x4_1 < (l0_2.length : Int)) = true := decide_eq_true c27
           clear c27
           replace H := Option.bind_eq_some_iff.mp H
           obtain ⟨t234, A280, H⟩ := H
           replace H : (reedpenref04_First.l0 k2 (Go.bits .or .u16 x3_1 t234) (wrap64 (x4_1 + 1)) a0_0 a0_1 l0_2) = some r := H
           have A28 := Aside0.mk A280
           clear A280
           have H' := Aside0.mk H
           clear H
           have hcz29_0 : wr.cell? ⟨gb228, 0, none⟩ = some (.int .u8 a0_0) := (blk_cell BK228.out 0).trans rfl
           have hcz29_1 : wr.cell? ⟨gb228, 1, none⟩ = some (.int .u16 a0_1) := (blk_cell BK228.out 1).trans rfl
           have hcz29_2 : wr.cell? ⟨gb228, 2, none⟩ = some (.slice A0_2 l0_2.length c0_2) := (blk_cell BK228.out 2).trans rfl
           have hfz29_0 := blk_frozen BK228.out 0
           have hfz29_1 := blk_frozen BK228.out 1
           have hfz29_2 := blk_frozen BK228.out 2
           have p233 : 0 ≤ (x4_1 : Int) := of_decide_eq_true (by first | (with_reducible assumption) | assumption)
           have q233 : x4_1 < (l0_2.length : Int) := of_decide_eq_true (by first | (with_reducible assumption) | assumption)
           obtain ⟨ad233, A233_2, c233_2, e233, hx233_0, hx233_1, hx233_2, hl233_2, hi233_2⟩ := at_T25 HR0_2.out x4_1 p233 q233
           cases e233
           replace hx233_0 := (HB.out.cell (World.block_lt_of_cell? w _ hx233_0)).trans hx233_0
           replace hx233_1 := (HB.out.cell (World.block_lt_of_cell? w _ hx233_1)).trans hx233_1
           replace hx233_2 := (HB.out.cell (World.block_lt_of_cell? w _ hx233_2)).trans hx233_2
           have HR233_2 := Aside0.mk hi233_2
           have HC233_2 := Aside0.mk hl233_2
           clear hi233_2 hl233_2
           replace p233 := eq_true p233
           replace q233 := eq_true q233
           go_wp2_with (first | ((with_reducible refine gate_callee (f := 20) rfl ?_); refine goesL_ (some 45) rfl rfl Try.func20 (by kernel_rfl) rfl #[.agg #[.int .u8 ((rd_T25 l0_2 x4_1).f0), .int .u16 ((rd_T25 l0_2 x4_1).f1), .slice A233_2 ((rd_T25 l0_2 x4_1).f2).length c233_2]] rfl (by (try simp only [List.map_toArray, List.map_cons, List.map_nil]); first | done | rfl | (simp only [List.length_drop, List.length_take]; rfl)) ?_; (with_reducible refine (ih k2 (by have := HK1.out; have := HK2.out; omega) ((rd_T25 l0_2 x4_1).f0) ((rd_T25 l0_2 x4_1).f1) _ _ ((rd_T25 l0_2 x4_1).f2) t234 _ ?side1 ?side2 A28.out).mono ?_); (case side1 => repeat (first | exact (Kd.C_below HR233_2.out HB.out) | (with_reducible refine Kd.C_alloc ?_ _) | (with_reducible refine Kd.C_drewN ?_ _) | (with_reducible refine Kd.C_drew ?_))); (case side2 => exact HC233_2.out); rintro e w30 ⟨rfl, hb⟩; refine ⟨_, rfl, ?_⟩; have n0_ := Aside0.mk (blk_below (g := gb228) (o := .cells #[.int .u8 a0_0, .int .u16 a0_1, .slice (some ad233) l0_2.length c0_2] 25 (0, 0)) (by (with_reducible repeat (first | refine blk_drewN ?_ _ | refine blk_drew ?_ | refine blk_alloc ?_ _)); exact BK228.out) hb); have n1_ := Aside0.mk (below_step (by repeat (first | (with_reducible first | exact HB.out | apply below_alloc | apply pw_below_drewN | apply below_drew1 | refine below_set ?_ GE228.out) | exact HB.out)) hb); clear BK228; clear HB; have BK228 := n0_; have HB := n1_; clear n0_ n1_; (try clear hb); (try clear hb2); (try clear hk); (try clear hi)))
           go_roundg k2
           case measure => have := HK1.out; have := HK2.out; omega
           case rel => exact ⟨(Go.bits .or .u16 x3_1 t234), (wrap64 (x4_1 + 1)), (by first | rfl | (simp; done) | (simp [*]; done)), (by first | rfl | (simp; done) | (simp [*]; done)), H', ⟨by have := HK1.out; have := HK2.out; omega⟩, ⟨by (with_reducible repeat (first | refine blk_drewN ?_ _ | refine blk_drew ?_ | refine blk_alloc ?_ _)); exact BK228.out⟩, ⟨by repeat (first | (with_reducible first | exact HB.out | apply below_alloc | apply pw_below_drewN | apply below_drew1 | refine below_set ?_ GE228.out) | exact HB.out)⟩⟩
          ·rw [if_neg c27] at H
           exact absurd H (by simp)
         ·rw [if_neg c26] at H
          exact absurd H (by simp)
        ·replace c25 := Bool.eq_false_iff.mpr c25
         subst c25
         have H1 : (reedpenref04_First.l0 k2 x3_1 (wrap64 (x4_1 + 1)) a0_0 a0_1 l0_2) = some r := by rw [if_neg (show ¬ (false = true) by decide)] at H; exact H
         clear H
         have H := H1
         clear H1
         have H' := Aside0.mk H
         clear H
         go_wp2
         go_roundg k2
         case measure => have := HK1.out; have := HK2.out; omega
         case rel => exact ⟨(x3_1), (wrap64 (x4_1 + 1)), (by first | rfl | (simp; done) | (simp [*]; done)), (by first | rfl | (simp; done) | (simp [*]; done)), H', ⟨by have := HK1.out; have := HK2.out; omega⟩, ⟨by (with_reducible repeat (first | refine blk_drewN ?_ _ | refine blk_drew ?_ | refine blk_alloc ?_ _)); exact BK228.out⟩, ⟨by repeat (first | (with_reducible first | exact HB.out | apply below_alloc | apply pw_below_drewN | apply below_drew1 | refine below_set ?_ GE228.out) | exact HB.out)⟩⟩
    ·rw [if_neg c7] at H
     have c7b0 : decide (x4_1 < (l0_2.length : Int)) = false := decide_eq_false c7
     clear c7
     obtain rfl := Option.some.inj H
     have hcz31_0 : wr.cell? ⟨gb228, 0, none⟩ = some (.int .u8 a0_0) := (blk_cell BK228.out 0).trans rfl
     have hcz31_1 : wr.cell? ⟨gb228, 1, none⟩ = some (.int .u16 a0_1) := (blk_cell BK228.out 1).trans rfl
     have hcz31_2 : wr.cell? ⟨gb228, 2, none⟩ = some (.slice A0_2 l0_2.length c0_2) := (blk_cell BK228.out 2).trans rfl
     have hfz31_0 := blk_frozen BK228.out 0
     have hfz31_1 := blk_frozen BK228.out 1
     have hfz31_2 := blk_frozen BK228.out 2
     go_wp2
     go_ret
     exact ⟨by first | rfl | (simp [errW_none, errW_some] <;> rfl) | (simp [*, errW_none, errW_some] <;> rfl), by repeat (first | (with_reducible first | exact HB.out | apply below_alloc | apply pw_below_drewN | apply below_drew1 | refine below_set ?_ GE228.out) | exact HB.out)⟩

end Go.Proofs.Ytbhkjaiaglkgjaa.PRegexTells
