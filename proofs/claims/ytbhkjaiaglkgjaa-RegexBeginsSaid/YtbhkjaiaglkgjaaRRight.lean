/- What the call of the reference's Right answers. Condition: the numbers are of their kinds. -/
import Derived.Test.YtbhkjaiaglkgjaaPlain2
namespace Go.Proofs.Ytbhkjaiaglkgjaa
open Go.RowKit Go.Proofs.YtbhkjaiaglkgjaaW.PrintWords Go.Proofs.YtbhkjaiaglkgjaaW.PrintLast Go.Proofs.YtbhkjaiaglkgjaaW.PrintMore
open PRegexTells

theorem rdeep_calls (n : Nat) (x : S25) (A : Option Addr) (c : Nat) (v : Int) (w : World) (hS : Sm n x) (hC : Kd.C k25 w A x.f2.length x.f2) (hc : x.f2.length ≤ c) (hv : (rdD 12 x : Int) = v) :
    Calls Try.prog 12 #[.agg #[.int .u8 x.f0, .int .u16 x.f1, .slice A x.f2.length c], .int .i64 12] w fun e w' => e = .returned (.int .i64 v) ∧ Below w.heap.size w w' :=
  reedpenref04_Deep.calls (130 * n) x.f0 x.f1 A c x.f2 12 v w hC hc ((rdeep_f n x 12 (by decide) hS _ (Nat.le_refl _)).trans (congrArg some hv))
theorem rnodes_calls (n : Nat) (x : S25) (A : Option Addr) (c : Nat) (v : Int) (w : World) (hS : Sm n x) (hC : Kd.C k25 w A x.f2.length x.f2) (hc : x.f2.length ≤ c) (hv : rnN n x = v) :
    Calls Try.prog 11 #[.agg #[.int .u8 x.f0, .int .u16 x.f1, .slice A x.f2.length c]] w fun e w' => e = .returned (.int .i64 v) ∧ Below w.heap.size w w' :=
  reedpenref04_Nodes.calls (130 * n) x.f0 x.f1 A c x.f2 v w hC hc ((rnodes_f n x hS _ (Nat.le_refl _)).trans (congrArg some hv))
theorem shapes_calls' (n : Nat) (x : S25) (A : Option Addr) (c : Nat) (b : Bool) (w : World) (hS : Sm n x) (hW : WfN n x) (hC : Kd.C k25 w A x.f2.length x.f2) (hc : x.f2.length ≤ c) (hb : shN n x = b) :
    Calls Try.prog 25 #[.agg #[.int .u8 x.f0, .int .u16 x.f1, .slice A x.f2.length c]] w fun e w' => e = .returned (.bool b) ∧ Below w.heap.size w w' := by
  subst hb
  exact shapes_calls n x A c w hS hW hC hc

set_option maxHeartbeats 1600000 in
set_option maxRecDepth 100000 in
theorem rright_calls (n : Nat) (x : S25) (A : Option Addr) (c : Nat) (r : Bool) (w : World) (hS : Sm n x) (hW : WfN n x) (hC : Kd.C k25 w A x.f2.length x.f2) (hc : x.f2.length ≤ c) (hr : RR n x = r) :
    Calls Try.prog 10 #[.agg #[.int .u8 x.f0, .int .u16 x.f1, .slice A x.f2.length c]] w fun e w' => e = .returned (.bool r) ∧ Below w.heap.size w w' := by
  have hu25 := Try.underlying25
  have HC := Aside0.mk hC
  have HW := Aside0.mk hW
  obtain ⟨v, hv⟩ : ∃ v : Int, (rdD 12 x : Int) = v := ⟨_, rfl⟩
  obtain ⟨m, hm⟩ : ∃ m : Int, rnN n x = m := ⟨_, rfl⟩
  obtain ⟨s, hs⟩ : ∃ s, shN n x = s := ⟨_, rfl⟩
  have HS := Aside0.mk hs
  have HV := Aside0.mk hv
  have HM := Aside0.mk hm
  have hR : (decide (v ≤ 12) && decide (m ≤ 100) && s) = r := by
    rw [← hr, RR, hs, ← hm, ← hv]
    congr 2
    rw [decide_eq_decide]; omega
  have HR := Aside0.mk hR
  clear hC hW hr hv hm hs hR
  by_cases h1 : v ≤ 12
  · have d1 : decide (v ≤ 12) = true := decide_eq_true h1
    by_cases h2 : m ≤ 100
    · have d2 : decide (m ≤ 100) = true := decide_eq_true h2
      have HE := Aside0.mk (show s = r by have := HR.out; rw [d1, d2] at this; simpa using this)
      clear h1 h2
      go_enter Try.func10, Try.ntmps10
      go_wp2_with (first | (((with_reducible refine gate_dst (N := 1) rfl ?_); refine box_event ?hg (N := 1) ?hd (cs := #[.int .u8 x.f0, .int .u16 x.f1, .slice A x.f2.length c]) (t := 25) ?hr ?_; (case hd => rfl); (case hg => rfl); (case hr => first | (go_simp; done) | (go_simp; rfl)); intro gb hgb w1 hbox hb1); have HX := Aside0.mk hbox; have HB1 := Aside0.mk hb1; have y0 : w1.cell? ⟨gb, 0, none⟩ = some (.int .u8 x.f0) := (blk_cell HX.out 0).trans rfl; have y1 : w1.cell? ⟨gb, 1, none⟩ = some (.int .u16 x.f1) := (blk_cell HX.out 1).trans rfl; have y2 : w1.cell? ⟨gb, 2, none⟩ = some (.slice A x.f2.length c) := (blk_cell HX.out 2).trans rfl; clear hgb hbox hb1) | (go_at_call 12; have hh := rdeep_calls n x A c v w1 hS (Kd.C_below HC.out HB1.out) hc HV.out; with_reducible refine hh.mono ?_; clear hh; rintro e w2 ⟨rfl, hb⟩; have HB2 := Aside0.mk (below_in HB1.out hb); replace y0 := cell_below y0 hb; replace y1 := cell_below y1 hb; replace y2 := cell_below y2 hb; clear hb) | (go_at_call 11; have hh := rnodes_calls n x A c m w2 hS (Kd.C_below HC.out HB2.out) hc HM.out; with_reducible refine hh.mono ?_; clear hh; rintro e w3 ⟨rfl, hb⟩; have HB3 := Aside0.mk (below_in HB2.out hb); replace y0 := cell_below y0 hb; replace y1 := cell_below y1 hb; replace y2 := cell_below y2 hb; clear hb) | (go_at_call 25; have hh := shapes_calls' n x A c s w3 hS HW.out (Kd.C_below HC.out HB3.out) hc HS.out; with_reducible refine hh.mono ?_; clear hh; rintro e w4 ⟨rfl, hb⟩; have HB4 := Aside0.mk (below_in HB3.out hb); replace y0 := cell_below y0 hb; replace y1 := cell_below y1 hb; replace y2 := cell_below y2 hb; clear hb))
      go_ret
      exact ⟨by rw [← HE.out]; rfl, HB4.out⟩
    · have d2 : decide (m ≤ 100) = false := decide_eq_false h2
      have HE := Aside0.mk (show false = r by have := HR.out; rw [d1, d2] at this; simpa using this)
      clear h1 h2
      go_enter Try.func10, Try.ntmps10
      go_wp2_with (first | (((with_reducible refine gate_dst (N := 1) rfl ?_); refine box_event ?hg (N := 1) ?hd (cs := #[.int .u8 x.f0, .int .u16 x.f1, .slice A x.f2.length c]) (t := 25) ?hr ?_; (case hd => rfl); (case hg => rfl); (case hr => first | (go_simp; done) | (go_simp; rfl)); intro gb hgb w1 hbox hb1); have HX := Aside0.mk hbox; have HB1 := Aside0.mk hb1; have y0 : w1.cell? ⟨gb, 0, none⟩ = some (.int .u8 x.f0) := (blk_cell HX.out 0).trans rfl; have y1 : w1.cell? ⟨gb, 1, none⟩ = some (.int .u16 x.f1) := (blk_cell HX.out 1).trans rfl; have y2 : w1.cell? ⟨gb, 2, none⟩ = some (.slice A x.f2.length c) := (blk_cell HX.out 2).trans rfl; clear hgb hbox hb1) | (go_at_call 12; have hh := rdeep_calls n x A c v w1 hS (Kd.C_below HC.out HB1.out) hc HV.out; with_reducible refine hh.mono ?_; clear hh; rintro e w2 ⟨rfl, hb⟩; have HB2 := Aside0.mk (below_in HB1.out hb); replace y0 := cell_below y0 hb; replace y1 := cell_below y1 hb; replace y2 := cell_below y2 hb; clear hb) | (go_at_call 11; have hh := rnodes_calls n x A c m w2 hS (Kd.C_below HC.out HB2.out) hc HM.out; with_reducible refine hh.mono ?_; clear hh; rintro e w3 ⟨rfl, hb⟩; have HB3 := Aside0.mk (below_in HB2.out hb); replace y0 := cell_below y0 hb; replace y1 := cell_below y1 hb; replace y2 := cell_below y2 hb; clear hb) | (go_at_call 25; have hh := shapes_calls' n x A c s w3 hS HW.out (Kd.C_below HC.out HB3.out) hc HS.out; with_reducible refine hh.mono ?_; clear hh; rintro e w4 ⟨rfl, hb⟩; have HB4 := Aside0.mk (below_in HB3.out hb); replace y0 := cell_below y0 hb; replace y1 := cell_below y1 hb; replace y2 := cell_below y2 hb; clear hb))
      go_ret
      exact ⟨by rw [← HE.out]; rfl, HB3.out⟩
  · have d1 : decide (v ≤ 12) = false := decide_eq_false h1
    have HE := Aside0.mk (show false = r by have := HR.out; rw [d1] at this; simpa using this)
    clear h1
    go_enter Try.func10, Try.ntmps10
    go_wp2_with (first | (((with_reducible refine gate_dst (N := 1) rfl ?_); refine box_event ?hg (N := 1) ?hd (cs := #[.int .u8 x.f0, .int .u16 x.f1, .slice A x.f2.length c]) (t := 25) ?hr ?_; (case hd => rfl); (case hg => rfl); (case hr => first | (go_simp; done) | (go_simp; rfl)); intro gb hgb w1 hbox hb1); have HX := Aside0.mk hbox; have HB1 := Aside0.mk hb1; have y0 : w1.cell? ⟨gb, 0, none⟩ = some (.int .u8 x.f0) := (blk_cell HX.out 0).trans rfl; have y1 : w1.cell? ⟨gb, 1, none⟩ = some (.int .u16 x.f1) := (blk_cell HX.out 1).trans rfl; have y2 : w1.cell? ⟨gb, 2, none⟩ = some (.slice A x.f2.length c) := (blk_cell HX.out 2).trans rfl; clear hgb hbox hb1) | (go_at_call 12; have hh := rdeep_calls n x A c v w1 hS (Kd.C_below HC.out HB1.out) hc HV.out; with_reducible refine hh.mono ?_; clear hh; rintro e w2 ⟨rfl, hb⟩; have HB2 := Aside0.mk (below_in HB1.out hb); replace y0 := cell_below y0 hb; replace y1 := cell_below y1 hb; replace y2 := cell_below y2 hb; clear hb) | (go_at_call 11; have hh := rnodes_calls n x A c m w2 hS (Kd.C_below HC.out HB2.out) hc HM.out; with_reducible refine hh.mono ?_; clear hh; rintro e w3 ⟨rfl, hb⟩; have HB3 := Aside0.mk (below_in HB2.out hb); replace y0 := cell_below y0 hb; replace y1 := cell_below y1 hb; replace y2 := cell_below y2 hb; clear hb) | (go_at_call 25; have hh := shapes_calls' n x A c s w3 hS HW.out (Kd.C_below HC.out HB3.out) hc HS.out; with_reducible refine hh.mono ?_; clear hh; rintro e w4 ⟨rfl, hb⟩; have HB4 := Aside0.mk (below_in HB3.out hb); replace y0 := cell_below y0 hb; replace y1 := cell_below y1 hb; replace y2 := cell_below y2 hb; clear hb))
    go_ret
    exact ⟨by rw [← HE.out]; rfl, HB2.out⟩

theorem great30 (x : S25) (A : Option Addr) (c : Nat) (b : Bool) (w : World) (hC : Kd.C k25 w A x.f2.length x.f2) (hc : x.f2.length ≤ c) (hb : greN 30 x = b) :
    Calls Try.prog 9 #[.agg #[.int .u8 x.f0, .int .u16 x.f1, .slice A x.f2.length c], .int .i64 30] w fun e w' => e = .returned (.bool b) ∧ Below w.heap.size w w' :=
  great_calls 30 (by decide) x A c b w hC hc hb
theorem alive_calls' (w : World) : Calls Try.prog 8 #[] w fun e w' => e = .returned (.bool true) ∧ Below w.heap.size w w' := alive_calls w
end Go.Proofs.Ytbhkjaiaglkgjaa
