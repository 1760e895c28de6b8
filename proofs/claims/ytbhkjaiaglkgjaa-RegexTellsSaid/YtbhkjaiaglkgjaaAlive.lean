/- What the call of alive answers: true. Condition: none. -/
import Derived.Test.YtbhkjaiaglkgjaaExample
namespace Go.Proofs.Ytbhkjaiaglkgjaa
open Go.RowKit Go.Proofs.YtbhkjaiaglkgjaaW.PrintWords Go.Proofs.YtbhkjaiaglkgjaaW.PrintLast Go.Proofs.YtbhkjaiaglkgjaaW.PrintMore
open PRegexTells

theorem exSm : Sm 3 exT := by
  refine ⟨by decide, fun k hk => ?_⟩
  simp [exT, exKids] at hk
  rcases hk with rfl | rfl
  · exact ⟨by decide, fun k hk => by simp at hk⟩
  · refine ⟨by decide, fun k hk => ?_⟩
    simp [exKid] at hk
    subst hk
    exact ⟨by decide, fun k hk => by simp at hk⟩
theorem exRight : (cnt 12 exT 100).1 = true := by decide
theorem exNodes : wlk see28 3 exT 1 0 = 4 := by simp [wlk, see28, exT, exKids, exKid, wrap64]
theorem exDeep : wlk see29 3 exT 1 0 = 3 := by decide
theorem exEmpty : empN 3 exT = false := by decide
theorem exFirst : firN 3 exT = 2 := by decide
theorem exSame : samN 3 exT exT = true := by decide
def exV (A : Option Addr) (c : Nat) : Value := .agg #[.int .u8 2, .int .u16 0, .slice A 2 c]

theorem ar (A : Option Addr) (c : Nat) (w : World) (hc : 2 ≤ c) (hC : Kd.C k25 w A 2 exKids) : Calls Try.prog 13 #[.agg #[.int .u8 2, .int .u16 0, .slice A 2 c]] w fun e w' => e = .returned (.bool true) ∧ Below w.heap.size w w' :=
  right_calls 3 exT A c true w exSm hC hc exRight
theorem an (A : Option Addr) (c : Nat) (w : World) (hc : 2 ≤ c) (hC : Kd.C k25 w A 2 exKids) : Calls Try.prog 14 #[.agg #[.int .u8 2, .int .u16 0, .slice A 2 c]] w fun e w' => e = .returned (.int .i64 4) ∧ Below w.heap.size w w' :=
  nodes_calls 3 exT A c true 4 w (by decide) exSm hC hc exRight (by rw [if_pos rfl, exNodes])
theorem ad_ (A : Option Addr) (c : Nat) (w : World) (hc : 2 ≤ c) (hC : Kd.C k25 w A 2 exKids) : Calls Try.prog 15 #[.agg #[.int .u8 2, .int .u16 0, .slice A 2 c]] w fun e w' => e = .returned (.int .i64 3) ∧ Below w.heap.size w w' :=
  deep_calls 3 exT A c true 3 w (by decide) exSm hC hc exRight (by rw [if_pos rfl, exDeep])
theorem ae (A : Option Addr) (c : Nat) (w : World) (hc : 2 ≤ c) (hC : Kd.C k25 w A 2 exKids) : Calls Try.prog 17 #[.agg #[.int .u8 2, .int .u16 0, .slice A 2 c]] w fun e w' => e = .returned (.bool false) ∧ Below w.heap.size w w' :=
  empty_calls 3 exT A c true false w exSm hC hc exRight (by rw [if_pos rfl, exEmpty])
theorem af (A : Option Addr) (c : Nat) (w : World) (hc : 2 ≤ c) (hC : Kd.C k25 w A 2 exKids) : Calls Try.prog 18 #[.agg #[.int .u8 2, .int .u16 0, .slice A 2 c]] w fun e w' => e = .returned (.int .u16 2) ∧ Below w.heap.size w w' :=
  first_calls 3 exT A c true 2 w exSm hC hc exRight (by rw [if_pos rfl, exFirst])
theorem as_ (A : Option Addr) (c : Nat) (w : World) (hc : 2 ≤ c) (hC : Kd.C k25 w A 2 exKids) : Calls Try.prog 23 #[.agg #[.int .u8 2, .int .u16 0, .slice A 2 c], .agg #[.int .u8 2, .int .u16 0, .slice A 2 c]] w fun e w' => e = .returned (.bool true) ∧ Below w.heap.size w w' :=
  regex_Same.calls 390 2 0 A c exKids 2 0 A c exKids true w hC hc hC hc ((same_f 3 exT exT exSm 390 (by decide)).trans (congrArg some exSame))
theorem add0 (ad : Addr) : ad.add 0 = ad := by unfold Addr.add; split <;> simp_all
theorem at_ (A : Option Addr) (c : Nat) (w : World) (hc : 2 ≤ c) (hC : Kd.C k25 w A 2 exKids) : Calls Try.prog 16 #[.agg #[.int .u8 2, .int .u16 0, .slice A 2 c]] w fun e w' => ∃ A' c', e = .returned (.agg #[.int .u8 2, .int .u16 0, .slice A' 2 c']) ∧ (∃ ad, A' = some ad ∧ w'.cell? ad = some (.int .u8 4)) ∧ Below w.heap.size w w' := by
  refine (bturned_calls 3 exT ⟨2, 0, [⟨4, 0, exKid⟩, ⟨1, 2, []⟩]⟩ A c true w exSm hC hc exRight rfl).mono ?_
  rintro e w' ⟨A', c', rfl, hc', hF, hb⟩
  obtain ⟨ad, _, _, rfl, h0, _⟩ := at_T25 (Kd.F_now hF) 0 (by decide) (by decide)
  exact ⟨some ad, c', rfl, ⟨ad, rfl, by rw [← add0 ad]; exact h0⟩, hb⟩

theorem fld (x y : Int) (A : Option Addr) (n c : Nat) (w : World) : (Instr.field 25 (.agg #[.int .u8 x, .int .u16 y, .slice A n c]) 2).run Try.prog w = .ok (.slice A n c) w := by kernel_rfl
set_option maxHeartbeats 1600000 in
set_option maxRecDepth 100000 in
theorem alive_calls (w : World) : Calls Try.prog 8 #[] w fun e w' => e = .returned (.bool true) ∧ Below w.heap.size w w' := by
  have hu25 := Try.underlying25
  go_enter Try.func8, Try.ntmps8
  go_wp2_with (first | (go_at_call 24; refine (example_calls _).mono ?_; rintro e w1 ⟨A, c, rfl, hc, hC, hb⟩; have HC := Aside0.mk hC; have HCC := Aside0.mk hc; have HB1 := Aside0.mk hb; clear hc hC hb) | (((with_reducible refine gate_dst (N := 1) rfl ?_); refine box_event ?hg (N := 1) ?hd (cs := #[.int .u8 0, .int .u16 0, .slice none 0 0]) (t := 25) ?hr ?_; (case hd => rfl); (case hg => rfl); (case hr => first | (go_simp; done) | (go_simp; rfl)); intro gb hgb w2 hbox hb); have HX2 := Aside0.mk hbox; have HG := Aside0.mk (show w1.heap.size ≤ gb by rw [hgb]; exact Nat.le_refl _); have HB2 := Aside0.mk hb; have z0 : w2.cell? ⟨gb, 0, none⟩ = some (.int .u8 0) := (blk_cell HX2.out 0).trans rfl; have z1 : w2.cell? ⟨gb, 1, none⟩ = some (.int .u16 0) := (blk_cell HX2.out 1).trans rfl; have z2 : w2.cell? ⟨gb, 2, none⟩ = some (.slice none 0 0) := (blk_cell HX2.out 2).trans rfl; have f0 := blk_frozen HX2.out 0; have f1 := blk_frozen HX2.out 1; have f2 := blk_frozen HX2.out 2; clear hgb hbox hb) | (go_at_call 13; refine (ar A c _ HCC.out (by exact Kd.C_below HC.out (below_set' (below_set' (below_set' HB2.out HG.out _ _) HG.out _ _) HG.out _ _))).mono ?_; rintro e w3 ⟨rfl, hb⟩; have HX3 := Aside0.mk (blk_below (blk_put (cs' := #[.int .u8 2, .int .u16 0, .slice A 2 c]) (blk_put (cs' := #[.int .u8 2, .int .u16 0, .slice none 0 0]) (blk_put (cs' := #[.int .u8 2, .int .u16 0, .slice none 0 0]) HX2.out 0 (.int .u8 2) rfl) 1 (.int .u16 0) rfl) 2 (.slice A 2 c) rfl) hb); have HB3 := Aside0.mk (below_in (below_set' (below_set' (below_set' HB2.out HG.out _ _) HG.out _ _) HG.out _ _) hb); have y0 : w3.cell? ⟨gb, 0, none⟩ = some (.int .u8 2) := (blk_cell HX3.out 0).trans rfl; have y1 : w3.cell? ⟨gb, 1, none⟩ = some (.int .u16 0) := (blk_cell HX3.out 1).trans rfl; have y2 : w3.cell? ⟨gb, 2, none⟩ = some (.slice A 2 c) := (blk_cell HX3.out 2).trans rfl; clear hb z0 z1 z2 f0 f1 f2) | (go_at_call 14; refine (an A c _ HCC.out (by exact Kd.C_below HC.out HB3.out)).mono ?_; rintro e w4 ⟨rfl, hb⟩; have HB4 := Aside0.mk (below_in HB3.out hb); replace y0 := cell_below y0 hb; replace y1 := cell_below y1 hb; replace y2 := cell_below y2 hb; clear hb) | (go_at_call 15; refine (ad_ A c _ HCC.out (by exact Kd.C_below HC.out HB4.out)).mono ?_; rintro e w5 ⟨rfl, hb⟩; have HB5 := Aside0.mk (below_in HB4.out hb); replace y0 := cell_below y0 hb; replace y1 := cell_below y1 hb; replace y2 := cell_below y2 hb; clear hb) | (go_at_call 17; refine (ae A c _ HCC.out (by exact Kd.C_below HC.out HB5.out)).mono ?_; rintro e w6 ⟨rfl, hb⟩; have HB6 := Aside0.mk (below_in HB5.out hb); replace y0 := cell_below y0 hb; replace y1 := cell_below y1 hb; replace y2 := cell_below y2 hb; clear hb) | (go_at_call 18; refine (af A c _ HCC.out (by exact Kd.C_below HC.out HB6.out)).mono ?_; rintro e w7 ⟨rfl, hb⟩; have HB7 := Aside0.mk (below_in HB6.out hb); replace y0 := cell_below y0 hb; replace y1 := cell_below y1 hb; replace y2 := cell_below y2 hb; clear hb) | (go_at_call 23; refine (as_ A c _ HCC.out (by exact Kd.C_below HC.out HB7.out)).mono ?_; rintro e w8 ⟨rfl, hb⟩; have HB8 := Aside0.mk (below_in HB7.out hb); replace y0 := cell_below y0 hb; replace y1 := cell_below y1 hb; replace y2 := cell_below y2 hb; clear hb) | (go_at_call 16; refine (at_ A c _ HCC.out (by exact Kd.C_below HC.out HB8.out)).mono ?_; rintro e w9 ⟨A', c', rfl, ⟨ad, rfl, hx⟩, hb⟩; have HB9 := Aside0.mk (below_in HB8.out hb); have hfd := fun w => fld 2 0 (some ad) 2 c' w; clear hb))
  go_ret
  exact ⟨rfl, below_in HB1.out HB9.out⟩
end Go.Proofs.Ytbhkjaiaglkgjaa

