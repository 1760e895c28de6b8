/- The law RegexBegins answers true: its walk. Condition: the numbers are of their kinds. -/
import Derived.Test.YtbhkjaiaglkgjaaBits
import Derived.Test.YtbhkjaiaglkgjaaRRight
namespace Go.Proofs.Ytbhkjaiaglkgjaa
open Go.RowKit Go.Proofs.YtbhkjaiaglkgjaaW.PrintWords Go.Proofs.YtbhkjaiaglkgjaaW.PrintLast Go.Proofs.YtbhkjaiaglkgjaaW.PrintMore
open PRegexTells

set_option maxHeartbeats 1600000 in
set_option maxRecDepth 100000 in
theorem law_begins (x : S25) (A : Option Addr) (c : Nat) (A1 : Option Addr) (c1 : Nat) (word : List Int) (w : World) (hC : Kd.C k25 w A x.f2.length x.f2) (hc : x.f2.length ≤ c) (_hW : ∀ m, WfN m x) (hC1 : Kd.C (Kd.int .i64) w A1 word.length word) (hc1 : word.length ≤ c1) :
    Calls Try.prog 7 #[.agg #[.int .u8 x.f0, .int .u16 x.f1, .slice A x.f2.length c], .slice A1 word.length c1] w fun e w' => e = .returned (.bool true) ∧ Below w.heap.size w w' := by
  have hu25 := Try.underlying25
  have HC := Aside0.mk hC
  have HC1 := Aside0.mk hC1
  obtain ⟨p, hp⟩ : ∃ p, greN 30 x = p := ⟨_, rfl⟩
  have HP := Aside0.mk hp
  clear hC
  cases p with
  | true =>
    clear hp hC1
    go_enter Try.func7, Try.ntmps7
    go_wp2_with (first | (((with_reducible refine gate_dst (N := 2) rfl ?_); refine box_event ?hg (N := 2) ?hd (cs := #[.int .u8 x.f0, .int .u16 x.f1, .slice A x.f2.length c]) (t := 25) ?hr ?_; (case hd => rfl); (case hg => rfl); (case hr => first | (go_simp; done) | (go_simp; rfl)); intro gb hgb w1 hbox hb1); have HX := Aside0.mk hbox; have HB1 := Aside0.mk hb1; have y0 : w1.cell? ⟨gb, 0, none⟩ = some (.int .u8 x.f0) := (blk_cell HX.out 0).trans rfl; have y1 : w1.cell? ⟨gb, 1, none⟩ = some (.int .u16 x.f1) := (blk_cell HX.out 1).trans rfl; have y2 : w1.cell? ⟨gb, 2, none⟩ = some (.slice A x.f2.length c) := (blk_cell HX.out 2).trans rfl; clear hgb hbox hb1) | (go_at_call 8; have hh := alive_calls w1; with_reducible refine hh.mono ?_; clear hh; rintro e w2 ⟨rfl, hb⟩; have HB2 := Aside0.mk (below_in HB1.out hb); replace y0 := cell_below y0 hb; replace y1 := cell_below y1 hb; replace y2 := cell_below y2 hb; clear hb) | (go_at_call 9; have hh := great30 x A c true w2 (Kd.C_below HC.out HB2.out) hc HP.out; with_reducible refine hh.mono ?_; clear hh; rintro e w3 ⟨rfl, hb⟩; have HB3 := Aside0.mk (below_in HB2.out hb); replace y0 := cell_below y0 hb; replace y1 := cell_below y1 hb; replace y2 := cell_below y2 hb; clear hb))
    go_ret
    exact ⟨rfl, HB3.out⟩
  | false =>
    have hS := gre_false 30 x hp
    have HS := Aside0.mk hS
    obtain ⟨r, hr⟩ : ∃ r, RR 30 x = r := ⟨_, rfl⟩
    have HCN := Aside0.mk ((cnt_rr 30 (by decide) x hS).trans hr)
    by_cases hlen : word.length > 30
    · have d1 : decide ((word.length : Int) > 30) = true := decide_eq_true (by omega)
      have HL := Aside0.mk hlen
      clear hp hr hS hlen hC1
      go_enter Try.func7, Try.ntmps7
      go_wp2_with (first | (((with_reducible refine gate_dst (N := 2) rfl ?_); refine box_event ?hg (N := 2) ?hd (cs := #[.int .u8 x.f0, .int .u16 x.f1, .slice A x.f2.length c]) (t := 25) ?hr ?_; (case hd => rfl); (case hg => rfl); (case hr => first | (go_simp; done) | (go_simp; rfl)); intro gb hgb w1 hbox hb1); have HX := Aside0.mk hbox; have HB1 := Aside0.mk hb1; have y0 : w1.cell? ⟨gb, 0, none⟩ = some (.int .u8 x.f0) := (blk_cell HX.out 0).trans rfl; have y1 : w1.cell? ⟨gb, 1, none⟩ = some (.int .u16 x.f1) := (blk_cell HX.out 1).trans rfl; have y2 : w1.cell? ⟨gb, 2, none⟩ = some (.slice A x.f2.length c) := (blk_cell HX.out 2).trans rfl; clear hgb hbox hb1) | (go_at_call 8; have hh := alive_calls w1; with_reducible refine hh.mono ?_; clear hh; rintro e w2 ⟨rfl, hb⟩; have HB2 := Aside0.mk (below_in HB1.out hb); replace y0 := cell_below y0 hb; replace y1 := cell_below y1 hb; replace y2 := cell_below y2 hb; clear hb) | (go_at_call 9; have hh := great30 x A c false w2 (Kd.C_below HC.out HB2.out) hc HP.out; with_reducible refine hh.mono ?_; clear hh; rintro e w3 ⟨rfl, hb⟩; have HB3 := Aside0.mk (below_in HB2.out hb); replace y0 := cell_below y0 hb; replace y1 := cell_below y1 hb; replace y2 := cell_below y2 hb; clear hb))
      go_ret
      exact ⟨rfl, HB3.out⟩
    · have d1 : decide ((word.length : Int) > 30) = false := decide_eq_false (by omega)
      have HL := Aside0.mk hlen
      cases r with
      | false =>
        clear hp hr hS hlen hC1
        go_enter Try.func7, Try.ntmps7
        go_wp2_with (first | (((with_reducible refine gate_dst (N := 2) rfl ?_); refine box_event ?hg (N := 2) ?hd (cs := #[.int .u8 x.f0, .int .u16 x.f1, .slice A x.f2.length c]) (t := 25) ?hr ?_; (case hd => rfl); (case hg => rfl); (case hr => first | (go_simp; done) | (go_simp; rfl)); intro gb hgb w1 hbox hb1); have HX := Aside0.mk hbox; have HB1 := Aside0.mk hb1; have y0 : w1.cell? ⟨gb, 0, none⟩ = some (.int .u8 x.f0) := (blk_cell HX.out 0).trans rfl; have y1 : w1.cell? ⟨gb, 1, none⟩ = some (.int .u16 x.f1) := (blk_cell HX.out 1).trans rfl; have y2 : w1.cell? ⟨gb, 2, none⟩ = some (.slice A x.f2.length c) := (blk_cell HX.out 2).trans rfl; clear hgb hbox hb1) | (go_at_call 8; have hh := alive_calls w1; with_reducible refine hh.mono ?_; clear hh; rintro e w2 ⟨rfl, hb⟩; have HB2 := Aside0.mk (below_in HB1.out hb); replace y0 := cell_below y0 hb; replace y1 := cell_below y1 hb; replace y2 := cell_below y2 hb; clear hb) | (go_at_call 9; have hh := great30 x A c false w2 (Kd.C_below HC.out HB2.out) hc HP.out; with_reducible refine hh.mono ?_; clear hh; rintro e w3 ⟨rfl, hb⟩; have HB3 := Aside0.mk (below_in HB2.out hb); replace y0 := cell_below y0 hb; replace y1 := cell_below y1 hb; replace y2 := cell_below y2 hb; clear hb) | (go_at_call 13; have hh := right_calls 30 x A c false w3 HS.out (Kd.C_below HC.out HB3.out) hc HCN.out; with_reducible refine hh.mono ?_; clear hh; rintro e w4 ⟨rfl, hb⟩; have HB4 := Aside0.mk (below_in HB3.out hb); replace y0 := cell_below y0 hb; replace y1 := cell_below y1 hb; replace y2 := cell_below y2 hb; clear hb))
        go_ret
        exact ⟨rfl, HB4.out⟩
      | true =>
        have hs : shN 30 x = true := ((rr_iff 30 (by decide) x hS).1 hr).2.2
        have HSH := Aside0.mk hs
        by_cases hm : M okc word 30 x 0 word.length
        · have HM := Aside0.mk (show HasR 30 x word true from ⟨fun _ => hm, fun _ => rfl⟩)
          by_cases hz : word.length = 0
          · have HE := Aside0.mk (show (if true = true then empN 30 x else false) = true by rw [if_pos rfl, ← M_emp okc word 30 x 0 (Nat.zero_le _) hs]; rw [hz] at hm; exact hm)
            have d2 : ((word.length : Int) == 0) = true := by rw [beq_iff_eq]; omega
            clear hp hr hS hlen hC1 hs hm hz
            go_enter Try.func7, Try.ntmps7
            go_wp2_with (first | (((with_reducible refine gate_dst (N := 2) rfl ?_); refine box_event ?hg (N := 2) ?hd (cs := #[.int .u8 x.f0, .int .u16 x.f1, .slice A x.f2.length c]) (t := 25) ?hr ?_; (case hd => rfl); (case hg => rfl); (case hr => first | (go_simp; done) | (go_simp; rfl)); intro gb hgb w1 hbox hb1); have HX := Aside0.mk hbox; have HB1 := Aside0.mk hb1; have y0 : w1.cell? ⟨gb, 0, none⟩ = some (.int .u8 x.f0) := (blk_cell HX.out 0).trans rfl; have y1 : w1.cell? ⟨gb, 1, none⟩ = some (.int .u16 x.f1) := (blk_cell HX.out 1).trans rfl; have y2 : w1.cell? ⟨gb, 2, none⟩ = some (.slice A x.f2.length c) := (blk_cell HX.out 2).trans rfl; clear hgb hbox hb1) | (go_at_call 8; have hh := alive_calls w1; with_reducible refine hh.mono ?_; clear hh; rintro e w2 ⟨rfl, hb⟩; have HB2 := Aside0.mk (below_in HB1.out hb); replace y0 := cell_below y0 hb; replace y1 := cell_below y1 hb; replace y2 := cell_below y2 hb; clear hb) | (go_at_call 9; have hh := great30 x A c false w2 (Kd.C_below HC.out HB2.out) hc HP.out; with_reducible refine hh.mono ?_; clear hh; rintro e w3 ⟨rfl, hb⟩; have HB3 := Aside0.mk (below_in HB2.out hb); replace y0 := cell_below y0 hb; replace y1 := cell_below y1 hb; replace y2 := cell_below y2 hb; clear hb) | (go_at_call 13; have hh := right_calls 30 x A c true w3 HS.out (Kd.C_below HC.out HB3.out) hc HCN.out; with_reducible refine hh.mono ?_; clear hh; rintro e w4 ⟨rfl, hb⟩; have HB4 := Aside0.mk (below_in HB3.out hb); replace y0 := cell_below y0 hb; replace y1 := cell_below y1 hb; replace y2 := cell_below y2 hb; clear hb) | (go_at_call 19; have hh := has_r 30 x A c A1 c1 word true w4 HS.out HSH.out (by have := HL.out; omega) (Kd.C_below HC.out HB4.out) hc (Kd.C_below HC1.out HB4.out) hc1 HM.out; with_reducible refine hh.mono ?_; clear hh; rintro e w5 ⟨rfl, hb⟩; have HB5 := Aside0.mk (below_in HB4.out hb); replace y0 := cell_below y0 hb; replace y1 := cell_below y1 hb; replace y2 := cell_below y2 hb; clear hb) | (go_at_call 17; have hh := empty_calls 30 x A c true true w5 HS.out (Kd.C_below HC.out HB5.out) hc HCN.out HE.out; with_reducible refine hh.mono ?_; clear hh; rintro e w6 ⟨rfl, hb⟩; have HB6 := Aside0.mk (below_in HB5.out hb); replace y0 := cell_below y0 hb; replace y1 := cell_below y1 hb; replace y2 := cell_below y2 hb; clear hb))
            go_ret
            exact ⟨rfl, HB6.out⟩
          · have hok := first_ok 30 x hs word hm hz
            obtain ⟨v, hv⟩ : ∃ v, v = word.getD 0 0 := ⟨_, rfl⟩
            obtain ⟨u, hu⟩ : ∃ u, firN 30 x = u := ⟨_, rfl⟩
            rw [← hv, hu] at hok
            obtain ⟨o1, o2, o3⟩ := hok
            rw [wu64, show v % 18446744073709551616 = v by omega] at o3
            have HF := Aside0.mk (show (if true = true then firN 30 x else 0) = u by rw [if_pos rfl, hu])
            obtain ⟨ad, hA1, hcell⟩ := Kd.at_int hC1 0 (by decide) (by omega)
            rw [show rd word 0 = v by rw [hv]; rfl, show ad.add ((0 : Int)).toNat = ad from rfl] at hcell
            obtain rfl := hA1
            have d2 : ((word.length : Int) == 0) = false := by rw [beq_eq_false_iff_ne]; omega
            have d3 : decide (v ≥ 0) = true := decide_eq_true o1
            have d4 : decide (v < 16) = true := decide_eq_true o2
            have d5 : 0 < word.length := by omega
            have d5' : (0 : Int) < (word.length : Int) := by omega
            have d8 : ¬ (v < 0) := by omega
            have d9 : (0 : Int) ≤ v := o1
            have d6 : IntKind.u64.wrap v = v := by rw [wu64]; omega
            have d7 : (Go.bits .and .u16 (u / 2 ^ min v.toNat 16) 1 == 1) = true := by rw [beq_iff_eq]; exact o3
            clear hp hr hS hlen hC1 hs hm hz hv hu o1 o2 o3
            go_enter Try.func7, Try.ntmps7
            go_wp2_with (first | (((with_reducible refine gate_dst (N := 2) rfl ?_); refine box_event ?hg (N := 2) ?hd (cs := #[.int .u8 x.f0, .int .u16 x.f1, .slice A x.f2.length c]) (t := 25) ?hr ?_; (case hd => rfl); (case hg => rfl); (case hr => first | (go_simp; done) | (go_simp; rfl)); intro gb hgb w1 hbox hb1); have HX := Aside0.mk hbox; have HB1 := Aside0.mk hb1; have z0 := cell_below hcell hb1; have y0 : w1.cell? ⟨gb, 0, none⟩ = some (.int .u8 x.f0) := (blk_cell HX.out 0).trans rfl; have y1 : w1.cell? ⟨gb, 1, none⟩ = some (.int .u16 x.f1) := (blk_cell HX.out 1).trans rfl; have y2 : w1.cell? ⟨gb, 2, none⟩ = some (.slice A x.f2.length c) := (blk_cell HX.out 2).trans rfl; clear hgb hbox hb1) | (go_at_call 8; have hh := alive_calls w1; with_reducible refine hh.mono ?_; clear hh; rintro e w2 ⟨rfl, hb⟩; have HB2 := Aside0.mk (below_in HB1.out hb); replace y0 := cell_below y0 hb; replace y1 := cell_below y1 hb; replace y2 := cell_below y2 hb; replace z0 := cell_below z0 hb; clear hb) | (go_at_call 9; have hh := great30 x A c false w2 (Kd.C_below HC.out HB2.out) hc HP.out; with_reducible refine hh.mono ?_; clear hh; rintro e w3 ⟨rfl, hb⟩; have HB3 := Aside0.mk (below_in HB2.out hb); replace y0 := cell_below y0 hb; replace y1 := cell_below y1 hb; replace y2 := cell_below y2 hb; replace z0 := cell_below z0 hb; clear hb) | (go_at_call 13; have hh := right_calls 30 x A c true w3 HS.out (Kd.C_below HC.out HB3.out) hc HCN.out; with_reducible refine hh.mono ?_; clear hh; rintro e w4 ⟨rfl, hb⟩; have HB4 := Aside0.mk (below_in HB3.out hb); replace y0 := cell_below y0 hb; replace y1 := cell_below y1 hb; replace y2 := cell_below y2 hb; replace z0 := cell_below z0 hb; clear hb) | (go_at_call 19; have hh := has_r 30 x A c (some ad) c1 word true w4 HS.out HSH.out (by have := HL.out; omega) (Kd.C_below HC.out HB4.out) hc (Kd.C_below HC1.out HB4.out) hc1 HM.out; with_reducible refine hh.mono ?_; clear hh; rintro e w5 ⟨rfl, hb⟩; have HB5 := Aside0.mk (below_in HB4.out hb); replace y0 := cell_below y0 hb; replace y1 := cell_below y1 hb; replace y2 := cell_below y2 hb; replace z0 := cell_below z0 hb; clear hb))
            go_region_held3 (fun w' => w'.cell? ⟨gb, 0, none⟩ = some (.int .u8 x.f0) ∧ w'.cell? ⟨gb, 1, none⟩ = some (.int .u16 x.f1) ∧ w'.cell? ⟨gb, 2, none⟩ = some (.slice A x.f2.length c) ∧ w'.cell? ad = some (.int .i64 v)) (go_keep) (first | (go_at_call 18; have hh := fun W (hW : Below w.heap.size w W) => keep_calls (first_calls 30 x A c true u W HS.out (Kd.C_below HC.out hW) hc HCN.out HF.out) hW; with_reducible refine Calls.mono (hh _ ?hw) ?_; (case hw => exact (by first | exact HB5.out | exact below_drew1 HB5.out | exact pw_below_drewN HB5.out _)); clear hh; rintro e w6 ⟨rfl, hb, hk⟩; have HB6 := Aside0.mk hb; have y0_6 : w6.cell? ⟨gb, 0, none⟩ = some (.int .u8 x.f0) := (by first | exact hk _ _ y0 | exact hk _ _ (cell_drew1 y0)); have y1_6 : w6.cell? ⟨gb, 1, none⟩ = some (.int .u16 x.f1) := (by first | exact hk _ _ y1 | exact hk _ _ (cell_drew1 y1)); have y2_6 : w6.cell? ⟨gb, 2, none⟩ = some (.slice A x.f2.length c) := (by first | exact hk _ _ y2 | exact hk _ _ (cell_drew1 y2)); have z0_6 : w6.cell? ad = some (.int .i64 v) := (by first | exact hk _ _ z0 | exact hk _ _ (cell_drew1 z0)); clear hb hk))
            all_goals
              go_wp2
              go_ret
              first | exact ⟨rfl, HB6.out⟩ | exact ⟨rfl, pw_below_drewN HB6.out _⟩
        · have HM := Aside0.mk (show HasR 30 x word false from ⟨fun h => by simp at h, fun h => (hm h).elim⟩)
          clear hp hr hS hlen hC1 hs hm
          go_enter Try.func7, Try.ntmps7
          go_wp2_with (first | (((with_reducible refine gate_dst (N := 2) rfl ?_); refine box_event ?hg (N := 2) ?hd (cs := #[.int .u8 x.f0, .int .u16 x.f1, .slice A x.f2.length c]) (t := 25) ?hr ?_; (case hd => rfl); (case hg => rfl); (case hr => first | (go_simp; done) | (go_simp; rfl)); intro gb hgb w1 hbox hb1); have HX := Aside0.mk hbox; have HB1 := Aside0.mk hb1; have y0 : w1.cell? ⟨gb, 0, none⟩ = some (.int .u8 x.f0) := (blk_cell HX.out 0).trans rfl; have y1 : w1.cell? ⟨gb, 1, none⟩ = some (.int .u16 x.f1) := (blk_cell HX.out 1).trans rfl; have y2 : w1.cell? ⟨gb, 2, none⟩ = some (.slice A x.f2.length c) := (blk_cell HX.out 2).trans rfl; clear hgb hbox hb1) | (go_at_call 8; have hh := alive_calls w1; with_reducible refine hh.mono ?_; clear hh; rintro e w2 ⟨rfl, hb⟩; have HB2 := Aside0.mk (below_in HB1.out hb); replace y0 := cell_below y0 hb; replace y1 := cell_below y1 hb; replace y2 := cell_below y2 hb; clear hb) | (go_at_call 9; have hh := great30 x A c false w2 (Kd.C_below HC.out HB2.out) hc HP.out; with_reducible refine hh.mono ?_; clear hh; rintro e w3 ⟨rfl, hb⟩; have HB3 := Aside0.mk (below_in HB2.out hb); replace y0 := cell_below y0 hb; replace y1 := cell_below y1 hb; replace y2 := cell_below y2 hb; clear hb) | (go_at_call 13; have hh := right_calls 30 x A c true w3 HS.out (Kd.C_below HC.out HB3.out) hc HCN.out; with_reducible refine hh.mono ?_; clear hh; rintro e w4 ⟨rfl, hb⟩; have HB4 := Aside0.mk (below_in HB3.out hb); replace y0 := cell_below y0 hb; replace y1 := cell_below y1 hb; replace y2 := cell_below y2 hb; clear hb) | (go_at_call 19; have hh := has_r 30 x A c A1 c1 word false w4 HS.out HSH.out (by have := HL.out; omega) (Kd.C_below HC.out HB4.out) hc (Kd.C_below HC1.out HB4.out) hc1 HM.out; with_reducible refine hh.mono ?_; clear hh; rintro e w5 ⟨rfl, hb⟩; have HB5 := Aside0.mk (below_in HB4.out hb); replace y0 := cell_below y0 hb; replace y1 := cell_below y1 hb; replace y2 := cell_below y2 hb; clear hb))
          go_ret
          exact ⟨rfl, HB5.out⟩
end Go.Proofs.Ytbhkjaiaglkgjaa

