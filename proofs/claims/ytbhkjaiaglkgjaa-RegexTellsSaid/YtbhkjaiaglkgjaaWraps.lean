/- What the calls of Turned, Empty, First, the reference's Right, and of the example answer. Condition: no node has more than 120 kids, and the tree is at most n deep. -/
import Derived.Test.YtbhkjaiaglkgjaaPlain
namespace Go.Proofs.Ytbhkjaiaglkgjaa
open Go.RowKit Go.Proofs.YtbhkjaiaglkgjaaW.PrintWords Go.Proofs.YtbhkjaiaglkgjaaW.PrintLast Go.Proofs.YtbhkjaiaglkgjaaW.PrintMore
open PRegexTells

/-- An expression as a value. -/
def val (x : S25) (A : Option Addr) (c : Nat) : Value := .agg #[.int .u8 x.f0, .int .u16 x.f1, .slice A x.f2.length c]


set_option maxHeartbeats 1600000 in
set_option maxRecDepth 100000 in
theorem empty_calls (n : Nat) (x : S25) (A : Option Addr) (c : Nat) (r : Bool) (v : Bool) (w : World) (hS : Sm n x) (hC : Kd.C k25 w A x.f2.length x.f2) (hc : x.f2.length ≤ c) (hr : (cnt 12 x 100).1 = r) (hv : (if r = true then empN n x else false) = v) :
    Calls Try.prog 17 #[.agg #[.int .u8 x.f0, .int .u16 x.f1, .slice A x.f2.length c]] w fun e w' => e = .returned (.bool v) ∧ Below w.heap.size w w' := by
  have hu25 := Try.underlying25
  have HC := Aside0.mk hC
  have HR := Aside0.mk hr
  have HV := Aside0.mk hv
  clear hC hr hv
  cases r with
  | false =>
    go_enter Try.func17, Try.ntmps17
    go_wp2_with (first | (((with_reducible refine gate_dst (N := 1) rfl ?_); refine box_event ?hg (N := 1) ?hd (cs := #[.int .u8 x.f0, .int .u16 x.f1, .slice A x.f2.length c]) (t := 25) ?hr ?_; (case hd => rfl); (case hg => rfl); (case hr => first | (go_simp; done) | (go_simp; rfl)); intro gb hgb w1 hbox hb1); have HX := Aside0.mk hbox; have HB1 := Aside0.mk hb1; have HGB := Aside0.mk hgb; have y0 : w1.cell? ⟨gb, 0, none⟩ = some (.int .u8 x.f0) := (blk_cell HX.out 0).trans rfl; have y1 : w1.cell? ⟨gb, 1, none⟩ = some (.int .u16 x.f1) := (blk_cell HX.out 1).trans rfl; have y2 : w1.cell? ⟨gb, 2, none⟩ = some (.slice A x.f2.length c) := (blk_cell HX.out 2).trans rfl; clear hgb hbox hb1) | (go_at_call 13; refine (right_calls n x A c false _ hS (by exact Kd.C_below HC.out HB1.out) hc HR.out).mono ?_; rintro e w2 ⟨rfl, hb⟩; have HB2 := Aside0.mk (below_in HB1.out hb); have HX2 := Aside0.mk (blk_below HX.out hb); replace y0 := cell_below y0 hb; replace y1 := cell_below y1 hb; replace y2 := cell_below y2 hb; clear hb))
    go_ret
    exact ⟨by rw [← HV.out]; rfl, HB2.out⟩
  | true =>
    obtain ⟨u, hu⟩ : ∃ u, empN n x = u := ⟨_, rfl⟩
    have HV' := Aside0.mk (show u = v by rw [← hu]; have := HV.out; rw [if_pos rfl] at this; exact this)
    have HF := Aside0.mk ((empty_f n x hS (130 * n) (Nat.le_refl _)).trans (congrArg some hu))
    clear hu
    go_enter Try.func17, Try.ntmps17
    go_wp2_with (first | (((with_reducible refine gate_dst (N := 1) rfl ?_); refine box_event ?hg (N := 1) ?hd (cs := #[.int .u8 x.f0, .int .u16 x.f1, .slice A x.f2.length c]) (t := 25) ?hr ?_; (case hd => rfl); (case hg => rfl); (case hr => first | (go_simp; done) | (go_simp; rfl)); intro gb hgb w1 hbox hb1); have HX := Aside0.mk hbox; have HB1 := Aside0.mk hb1; have HGB := Aside0.mk hgb; have y0 : w1.cell? ⟨gb, 0, none⟩ = some (.int .u8 x.f0) := (blk_cell HX.out 0).trans rfl; have y1 : w1.cell? ⟨gb, 1, none⟩ = some (.int .u16 x.f1) := (blk_cell HX.out 1).trans rfl; have y2 : w1.cell? ⟨gb, 2, none⟩ = some (.slice A x.f2.length c) := (blk_cell HX.out 2).trans rfl; clear hgb hbox hb1) | (go_at_call 13; refine (right_calls n x A c true _ hS (by exact Kd.C_below HC.out HB1.out) hc HR.out).mono ?_; rintro e w2 ⟨rfl, hb⟩; have HB2 := Aside0.mk (below_in HB1.out hb); have HX2 := Aside0.mk (blk_below HX.out hb); replace y0 := cell_below y0 hb; replace y1 := cell_below y1 hb; replace y2 := cell_below y2 hb; clear hb) | (go_at_call 31; refine (regex_empty.calls (130 * n) x.f0 x.f1 A c x.f2 u _ (by exact Kd.C_below HC.out HB2.out) hc HF.out).mono ?_; rintro e w3 ⟨rfl, hb⟩; have HB3 := Aside0.mk (below_in HB2.out hb); have HX3 := Aside0.mk (blk_below HX2.out hb); replace y0 := cell_below y0 hb; replace y1 := cell_below y1 hb; replace y2 := cell_below y2 hb; clear hb))
    go_ret
    exact ⟨by rw [← HV'.out]; rfl, HB3.out⟩

set_option maxHeartbeats 1600000 in
set_option maxRecDepth 100000 in
theorem first_calls (n : Nat) (x : S25) (A : Option Addr) (c : Nat) (r : Bool) (v : Int) (w : World) (hS : Sm n x) (hC : Kd.C k25 w A x.f2.length x.f2) (hc : x.f2.length ≤ c) (hr : (cnt 12 x 100).1 = r) (hv : (if r = true then firN n x else 0) = v) :
    Calls Try.prog 18 #[.agg #[.int .u8 x.f0, .int .u16 x.f1, .slice A x.f2.length c]] w fun e w' => e = .returned (.int .u16 v) ∧ Below w.heap.size w w' := by
  have hu25 := Try.underlying25
  have HC := Aside0.mk hC
  have HR := Aside0.mk hr
  have HV := Aside0.mk hv
  clear hC hr hv
  cases r with
  | false =>
    go_enter Try.func18, Try.ntmps18
    go_wp2_with (first | (((with_reducible refine gate_dst (N := 1) rfl ?_); refine box_event ?hg (N := 1) ?hd (cs := #[.int .u8 x.f0, .int .u16 x.f1, .slice A x.f2.length c]) (t := 25) ?hr ?_; (case hd => rfl); (case hg => rfl); (case hr => first | (go_simp; done) | (go_simp; rfl)); intro gb hgb w1 hbox hb1); have HX := Aside0.mk hbox; have HB1 := Aside0.mk hb1; have HGB := Aside0.mk hgb; have y0 : w1.cell? ⟨gb, 0, none⟩ = some (.int .u8 x.f0) := (blk_cell HX.out 0).trans rfl; have y1 : w1.cell? ⟨gb, 1, none⟩ = some (.int .u16 x.f1) := (blk_cell HX.out 1).trans rfl; have y2 : w1.cell? ⟨gb, 2, none⟩ = some (.slice A x.f2.length c) := (blk_cell HX.out 2).trans rfl; clear hgb hbox hb1) | (go_at_call 13; refine (right_calls n x A c false _ hS (by exact Kd.C_below HC.out HB1.out) hc HR.out).mono ?_; rintro e w2 ⟨rfl, hb⟩; have HB2 := Aside0.mk (below_in HB1.out hb); have HX2 := Aside0.mk (blk_below HX.out hb); replace y0 := cell_below y0 hb; replace y1 := cell_below y1 hb; replace y2 := cell_below y2 hb; clear hb))
    go_ret
    exact ⟨by rw [← HV.out]; rfl, HB2.out⟩
  | true =>
    obtain ⟨u, hu⟩ : ∃ u, firN n x = u := ⟨_, rfl⟩
    have HV' := Aside0.mk (show u = v by rw [← hu]; have := HV.out; rw [if_pos rfl] at this; exact this)
    have HF := Aside0.mk ((first_f n x hS (130 * n) (Nat.le_refl _)).trans (congrArg some hu))
    clear hu
    go_enter Try.func18, Try.ntmps18
    go_wp2_with (first | (((with_reducible refine gate_dst (N := 1) rfl ?_); refine box_event ?hg (N := 1) ?hd (cs := #[.int .u8 x.f0, .int .u16 x.f1, .slice A x.f2.length c]) (t := 25) ?hr ?_; (case hd => rfl); (case hg => rfl); (case hr => first | (go_simp; done) | (go_simp; rfl)); intro gb hgb w1 hbox hb1); have HX := Aside0.mk hbox; have HB1 := Aside0.mk hb1; have HGB := Aside0.mk hgb; have y0 : w1.cell? ⟨gb, 0, none⟩ = some (.int .u8 x.f0) := (blk_cell HX.out 0).trans rfl; have y1 : w1.cell? ⟨gb, 1, none⟩ = some (.int .u16 x.f1) := (blk_cell HX.out 1).trans rfl; have y2 : w1.cell? ⟨gb, 2, none⟩ = some (.slice A x.f2.length c) := (blk_cell HX.out 2).trans rfl; clear hgb hbox hb1) | (go_at_call 13; refine (right_calls n x A c true _ hS (by exact Kd.C_below HC.out HB1.out) hc HR.out).mono ?_; rintro e w2 ⟨rfl, hb⟩; have HB2 := Aside0.mk (below_in HB1.out hb); have HX2 := Aside0.mk (blk_below HX.out hb); replace y0 := cell_below y0 hb; replace y1 := cell_below y1 hb; replace y2 := cell_below y2 hb; clear hb) | (go_at_call 32; refine (regex_first.calls (130 * n) x.f0 x.f1 A c x.f2 u _ (by exact Kd.C_below HC.out HB2.out) hc HF.out).mono ?_; rintro e w3 ⟨rfl, hb⟩; have HB3 := Aside0.mk (below_in HB2.out hb); have HX3 := Aside0.mk (blk_below HX2.out hb); replace y0 := cell_below y0 hb; replace y1 := cell_below y1 hb; replace y2 := cell_below y2 hb; clear hb))
    go_ret
    exact ⟨by rw [← HV'.out]; rfl, HB3.out⟩

theorem turned_calls (n : Nat) (x : S25) (A : Option Addr) (c : Nat) (w : World) (hS : Sm n x) (hC : Kd.C k25 w A x.f2.length x.f2) (hc : x.f2.length ≤ c) :
    Calls Try.prog 30 #[.agg #[.int .u8 x.f0, .int .u16 x.f1, .slice A x.f2.length c]] w fun e w' => ∃ A' c', e = .returned (.agg #[.int .u8 (turN n x).f0, .int .u16 (turN n x).f1, .slice A' (turN n x).f2.length c']) ∧ (turN n x).f2.length ≤ c' ∧ Kd.F k25 w' (fun k => w.heap.size ≤ k) A' (turN n x).f2.length (turN n x).f2 ∧ Below w.heap.size w w' := by
  refine (regex_turned.calls (130 * n) x.f0 x.f1 A c x.f2 _ _ _ w hC hc (turned_f n x hS (130 * n) (Nat.le_refl _))).mono ?_
  rintro e w' ⟨v, rfl, hR, hb⟩
  obtain ⟨A', c', rfl, hc', _⟩ := Kd.R_reads hR
  exact ⟨A', c', rfl, hc', Kd.R_F (Kd.R_mono (Kd.R_bound hR) (fun k hk => hk.2.1)), hb⟩

def TurnT (n : Nat) (x : S25) (r : Bool) : S25 := if r = true then turN n x else ⟨0, 0, []⟩
set_option maxHeartbeats 1600000 in
set_option maxRecDepth 100000 in
theorem bturned_calls (n : Nat) (x t : S25) (A : Option Addr) (c : Nat) (r : Bool) (w : World) (hS : Sm n x) (hC : Kd.C k25 w A x.f2.length x.f2) (hc : x.f2.length ≤ c) (hr : (cnt 12 x 100).1 = r) (ht : TurnT n x r = t) :
    Calls Try.prog 16 #[.agg #[.int .u8 x.f0, .int .u16 x.f1, .slice A x.f2.length c]] w fun e w' => ∃ A' c', e = .returned (.agg #[.int .u8 t.f0, .int .u16 t.f1, .slice A' t.f2.length c']) ∧ t.f2.length ≤ c' ∧ Kd.F k25 w' (fun k => w.heap.size ≤ k) A' t.f2.length t.f2 ∧ Below w.heap.size w w' := by
  have hu25 := Try.underlying25
  have HC := Aside0.mk hC
  have HR := Aside0.mk hr
  have HT := Aside0.mk ht
  clear hC hr ht
  cases r with
  | false =>
    go_enter Try.func16, Try.ntmps16
    go_wp2_with (first | (((with_reducible refine gate_dst (N := 1) rfl ?_); refine box_event ?hg (N := 1) ?hd (cs := #[.int .u8 x.f0, .int .u16 x.f1, .slice A x.f2.length c]) (t := 25) ?hr ?_; (case hd => rfl); (case hg => rfl); (case hr => first | (go_simp; done) | (go_simp; rfl)); intro gb hgb w1 hbox hb1); have HX := Aside0.mk hbox; have HB1 := Aside0.mk hb1; have HGB := Aside0.mk hgb; have y0 : w1.cell? ⟨gb, 0, none⟩ = some (.int .u8 x.f0) := (blk_cell HX.out 0).trans rfl; have y1 : w1.cell? ⟨gb, 1, none⟩ = some (.int .u16 x.f1) := (blk_cell HX.out 1).trans rfl; have y2 : w1.cell? ⟨gb, 2, none⟩ = some (.slice A x.f2.length c) := (blk_cell HX.out 2).trans rfl; clear hgb hbox hb1) | (((with_reducible refine gate_dst (N := 2) rfl ?_); refine box_event ?hg (N := 2) ?hd (cs := #[.int .u8 0, .int .u16 0, .slice none 0 0]) (t := 25) ?hr ?_; (case hd => rfl); (case hg => rfl); (case hr => first | (go_simp; done) | (go_simp; rfl)); intro gr hgr w2 hbox2 hb); have HX2 := Aside0.mk hbox2; have HN := Aside0.mk (show gb ≠ gr by rw [hgr]; exact Nat.ne_of_lt (blk_lt HX.out)); have HG := Aside0.mk (show w.heap.size ≤ gr by rw [hgr]; exact HB1.out.size); have hn1 := HN.out; have hn2 := HN.out.symm; replace y0 := cell_below y0 hb; replace y1 := cell_below y1 hb; replace y2 := cell_below y2 hb; have HB2 := Aside0.mk (below_in HB1.out hb); clear hgr hbox2 hb) | (go_at_call 13; refine (right_calls n x A c false _ hS (by exact Kd.C_below HC.out HB2.out) hc HR.out).mono ?_; rintro e w3 ⟨rfl, hb⟩; have HB3 := Aside0.mk (below_in HB2.out hb); have HX3 := Aside0.mk (blk_below HX2.out hb); replace y0 := cell_below y0 hb; replace y1 := cell_below y1 hb; replace y2 := cell_below y2 hb; have z0 : w3.cell? ⟨gr, 0, none⟩ = some (.int .u8 0) := (blk_cell HX3.out 0).trans rfl; have z1 : w3.cell? ⟨gr, 1, none⟩ = some (.int .u16 0) := (blk_cell HX3.out 1).trans rfl; have z2 : w3.cell? ⟨gr, 2, none⟩ = some (.slice none 0 0) := (blk_cell HX3.out 2).trans rfl; have f0 := blk_frozen HX3.out 0; have f1 := blk_frozen HX3.out 1; have f2 := blk_frozen HX3.out 2; clear hb))
    have ht := HT.out
    subst ht
    refine bodyPost_ret (results_cell_row rfl _ _ gr 25 #[.int .u8 0, .int .u16 0, .slice none 0 0] (0, 0) _ rfl (by refine blk_put (cs := #[.int .u8 0, .int .u16 0, .slice none 0 0]) ?_ 2 _ rfl; refine blk_put (cs := #[.int .u8 0, .int .u16 0, .slice none 0 0]) ?_ 1 _ rfl; refine blk_put (cs := #[.int .u8 0, .int .u16 0, .slice none 0 0]) ?_ 0 _ rfl; exact HX3.out) Try.underlying25 rfl (by kernel_rfl)) rfl ?_
    exact ⟨none, 0, rfl, Nat.le_refl _, Kd.F_nil _ _ _, below_set' (below_set' (below_set' HB3.out HG.out _ _) HG.out _ _) HG.out _ _⟩
  | true =>
    obtain ⟨u, hu⟩ : ∃ u, turN n x = u := ⟨_, rfl⟩
    have HV' := Aside0.mk (show u = t by rw [← hu]; have := HT.out; unfold TurnT at this; rw [if_pos rfl] at this; exact this)
    have HF := Aside0.mk hu
    clear hu
    go_enter Try.func16, Try.ntmps16
    go_wp2_with (first | (((with_reducible refine gate_dst (N := 1) rfl ?_); refine box_event ?hg (N := 1) ?hd (cs := #[.int .u8 x.f0, .int .u16 x.f1, .slice A x.f2.length c]) (t := 25) ?hr ?_; (case hd => rfl); (case hg => rfl); (case hr => first | (go_simp; done) | (go_simp; rfl)); intro gb hgb w1 hbox hb1); have HX := Aside0.mk hbox; have HB1 := Aside0.mk hb1; have HGB := Aside0.mk hgb; have y0 : w1.cell? ⟨gb, 0, none⟩ = some (.int .u8 x.f0) := (blk_cell HX.out 0).trans rfl; have y1 : w1.cell? ⟨gb, 1, none⟩ = some (.int .u16 x.f1) := (blk_cell HX.out 1).trans rfl; have y2 : w1.cell? ⟨gb, 2, none⟩ = some (.slice A x.f2.length c) := (blk_cell HX.out 2).trans rfl; clear hgb hbox hb1) | (((with_reducible refine gate_dst (N := 2) rfl ?_); refine box_event ?hg (N := 2) ?hd (cs := #[.int .u8 0, .int .u16 0, .slice none 0 0]) (t := 25) ?hr ?_; (case hd => rfl); (case hg => rfl); (case hr => first | (go_simp; done) | (go_simp; rfl)); intro gr hgr w2 hbox2 hb); have HX2 := Aside0.mk hbox2; have HN := Aside0.mk (show gb ≠ gr by rw [hgr]; exact Nat.ne_of_lt (blk_lt HX.out)); have HG := Aside0.mk (show w.heap.size ≤ gr by rw [hgr]; exact HB1.out.size); have hn1 := HN.out; have hn2 := HN.out.symm; replace y0 := cell_below y0 hb; replace y1 := cell_below y1 hb; replace y2 := cell_below y2 hb; have HB2 := Aside0.mk (below_in HB1.out hb); clear hgr hbox2 hb) | (go_at_call 13; refine (right_calls n x A c true _ hS (by exact Kd.C_below HC.out HB2.out) hc HR.out).mono ?_; rintro e w3 ⟨rfl, hb⟩; have HB3 := Aside0.mk (below_in HB2.out hb); have HX3 := Aside0.mk (blk_below HX2.out hb); replace y0 := cell_below y0 hb; replace y1 := cell_below y1 hb; replace y2 := cell_below y2 hb; have z0 : w3.cell? ⟨gr, 0, none⟩ = some (.int .u8 0) := (blk_cell HX3.out 0).trans rfl; have z1 : w3.cell? ⟨gr, 1, none⟩ = some (.int .u16 0) := (blk_cell HX3.out 1).trans rfl; have z2 : w3.cell? ⟨gr, 2, none⟩ = some (.slice none 0 0) := (blk_cell HX3.out 2).trans rfl; have f0 := blk_frozen HX3.out 0; have f1 := blk_frozen HX3.out 1; have f2 := blk_frozen HX3.out 2; clear hb) | (go_at_call 30; refine (turned_calls n x A c _ hS (by exact Kd.C_below HC.out HB3.out) hc).mono ?_; rw [HF.out]; rintro e w4 ⟨A4, c4, rfl, hc4, hC4, hb⟩; have HB4 := Aside0.mk (below_in HB3.out hb); have HX4 := Aside0.mk (blk_below HX3.out hb); replace z0 := cell_below z0 hb; replace z1 := cell_below z1 hb; replace z2 := cell_below z2 hb; replace f0 := blk_frozen HX4.out 0; replace f1 := blk_frozen HX4.out 1; replace f2 := blk_frozen HX4.out 2; clear hb; have HC4 := Aside0.mk hC4; have HCC4 := Aside0.mk hc4; clear hC4 hc4))
    refine bodyPost_ret (results_cell_row rfl _ _ gr 25 #[.int .u8 u.f0, .int .u16 u.f1, .slice A4 u.f2.length c4] (0, 0) _ rfl (by refine blk_put (cs := #[.int .u8 u.f0, .int .u16 u.f1, .slice none 0 0]) ?_ 2 _ rfl; refine blk_put (cs := #[.int .u8 u.f0, .int .u16 0, .slice none 0 0]) ?_ 1 _ rfl; refine blk_put (cs := #[.int .u8 0, .int .u16 0, .slice none 0 0]) ?_ 0 _ rfl; exact HX4.out) Try.underlying25 rfl (by kernel_rfl)) rfl ?_
    have hx := HV'.out
    subst hx
    have hlt : ∀ k, w3.heap.size ≤ k → k ≠ gr := fun k hk => by have := blk_lt HX3.out; omega
    exact ⟨A4, c4, rfl, HCC4.out, Kd.F_mono (Kd.F_far (p := ⟨gr, 2, none⟩) (Kd.F_far (p := ⟨gr, 1, none⟩) (Kd.F_far (p := ⟨gr, 0, none⟩) HC4.out hlt _) hlt _) hlt _) (fun k hk => Nat.le_trans HB3.out.size hk), below_set' (below_set' (below_set' HB4.out HG.out _ _) HG.out _ _) HG.out _ _⟩
end Go.Proofs.Ytbhkjaiaglkgjaa

