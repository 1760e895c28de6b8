/- The law RegexTurns answers true: its walk. Condition: the numbers are of their kinds. -/
import Derived.Test.YtbhkjaiaglkgjaaHasPlain
import Derived.Test.YtbhkjaiaglkgjaaRRight
namespace Go.Proofs.Ytbhkjaiaglkgjaa
open Go.RowKit Go.Proofs.YtbhkjaiaglkgjaaW.PrintWords Go.Proofs.YtbhkjaiaglkgjaaW.PrintLast Go.Proofs.YtbhkjaiaglkgjaaW.PrintMore
open PRegexTells

theorem info3 : (Try.prog.info? 3).map (fun i => (i.zero, i.size, i.bytes)) = some (some (.int .i64 0), 1, 8) := by kernel_rfl
theorem one_new (W : World) (x : Int) : ∀ j u, ([.int .i64 x] : List Value)[j]? = some u → (W.alloc (.cells #[.int .i64 x] 3)).cell? ((⟨W.heap.size, 0, none⟩ : Addr).add j) = some u := by
  intro j u hj
  match j, hj with
  | 0, hj => simp at hj; subst hj; simp [Addr.add]
theorem rev_take (l : List Int) (m : Nat) (h : m < l.length) : l.reverse.take (l.length - (m + 1) + 1) = l.reverse.take (l.length - (m + 1)) ++ [rd l (m : Int)] := by
  rw [List.take_add_one, List.getElem?_reverse (by omega), show l.length - 1 - (l.length - (m + 1)) = m by omega, List.getElem?_eq_getElem h]
  unfold rd
  rw [Int.toNat_natCast, List.getD_eq_getElem?_getD, List.getElem?_eq_getElem h]; rfl
theorem has_rn (n : Nat) (x : S25) (A : Option Addr) (c : Nat) (A1 : Option Addr) (c1 m : Nat) (word : List Int) (r : Bool) (w : World) (hS : Sm n x) (hs : shN n x = true) (hw : m ≤ 30) (hm : word.length = m) (hC : Kd.C k25 w A x.f2.length x.f2) (hc : x.f2.length ≤ c) (hr1 : Kd.C (Kd.int .i64) w A1 m word) (hc1 : m ≤ c1) (hr : HasR n x word r) :
    Calls Try.prog 19 #[.agg #[.int .u8 x.f0, .int .u16 x.f1, .slice A x.f2.length c], .slice A1 m c1] w fun e w' => e = .returned (.bool r) ∧ Below w.heap.size w w' := by
  subst hm
  exact has_r n x A c A1 c1 word r w hS hs hw hC hc hr1 hc1 hr
theorem has_ex (n : Nat) (x : S25) (word : List Int) : ∃ b, HasR n x word b := by
  by_cases h : M okc word n x 0 word.length
  · exact ⟨true, fun _ => h, fun _ => rfl⟩
  · exact ⟨false, fun q => by simp at q, fun q => (h q).elim⟩
theorem keep_turn {P : Program} {f : FuncId} {args : Array Value} {W w0 : World} {x : S25} (h : Calls P f args W fun e w' => ∃ A' c', e = .returned (.agg #[.int .u8 x.f0, .int .u16 x.f1, .slice A' x.f2.length c']) ∧ x.f2.length ≤ c' ∧ Kd.F k25 w' (fun k => W.heap.size ≤ k) A' x.f2.length x.f2 ∧ Below W.heap.size W w') (hW : Below w0.heap.size w0 W) :
    Calls P f args W fun e w' => ∃ A' c', e = .returned (.agg #[.int .u8 x.f0, .int .u16 x.f1, .slice A' x.f2.length c']) ∧ x.f2.length ≤ c' ∧ Kd.C k25 w' A' x.f2.length x.f2 ∧ Below w0.heap.size w0 w' ∧ ∀ a u, W.cell? a = some u → w'.cell? a = some u :=
  h.mono fun _ _ ⟨A', c', h1, h2, h3, h4⟩ => ⟨A', c', h1, h2, Kd.F_now h3, below_in hW h4, fun _ _ hc => cell_below hc h4⟩

set_option maxHeartbeats 3200000 in
set_option maxRecDepth 100000 in
theorem law_turns (x : S25) (A : Option Addr) (c : Nat) (A1 : Option Addr) (c1 : Nat) (word : List Int) (w : World) (hC : Kd.C k25 w A x.f2.length x.f2) (hc : x.f2.length ≤ c) (_hW : ∀ m, WfN m x) (hC1 : Kd.C (Kd.int .i64) w A1 word.length word) (hc1 : word.length ≤ c1) :
    Calls Try.prog 6 #[.agg #[.int .u8 x.f0, .int .u16 x.f1, .slice A x.f2.length c], .slice A1 word.length c1] w fun e w' => e = .returned (.bool true) ∧ Below w.heap.size w w' := by
  have hu25 := Try.underlying25
  have HC := Aside0.mk hC
  have HC1 := Aside0.mk hC1
  obtain ⟨p, hp⟩ : ∃ p, greN 30 x = p := ⟨_, rfl⟩
  have HP := Aside0.mk hp
  clear hC hC1
  cases p with
  | true =>
    clear hp
    go_enter Try.func6, Try.ntmps6
    go_wp2_with (first | (((with_reducible refine gate_dst (N := 2) rfl ?_); refine box_event ?hg (N := 2) ?hd (cs := #[.int .u8 x.f0, .int .u16 x.f1, .slice A x.f2.length c]) (t := 25) ?hr ?_; (case hd => rfl); (case hg => rfl); (case hr => first | (go_simp; done) | (go_simp; rfl)); intro gb hgb w1 hbox hb1); have HX := Aside0.mk hbox; have HB1 := Aside0.mk hb1; have y0 : w1.cell? ⟨gb, 0, none⟩ = some (.int .u8 x.f0) := (blk_cell HX.out 0).trans rfl; have y1 : w1.cell? ⟨gb, 1, none⟩ = some (.int .u16 x.f1) := (blk_cell HX.out 1).trans rfl; have y2 : w1.cell? ⟨gb, 2, none⟩ = some (.slice A x.f2.length c) := (blk_cell HX.out 2).trans rfl; clear hgb hbox hb1) | (go_at_call 8; have hh := alive_calls w1; with_reducible refine hh.mono ?_; clear hh; rintro e w2 ⟨rfl, hb⟩; have HB2 := Aside0.mk (below_in HB1.out hb); replace y0 := cell_below y0 hb; replace y1 := cell_below y1 hb; replace y2 := cell_below y2 hb; clear hb) | (go_at_call 9; have hh := great30 x A c true w2 (Kd.C_below HC.out HB2.out) hc HP.out; with_reducible refine hh.mono ?_; clear hh; rintro e w3 ⟨rfl, hb⟩; have HB3 := Aside0.mk (below_in HB2.out hb); replace y0 := cell_below y0 hb; replace y1 := cell_below y1 hb; replace y2 := cell_below y2 hb; clear hb))
    go_ret
    exact ⟨rfl, HB3.out⟩
  | false =>
    have hS := gre_false 30 x hp
    have HS := Aside0.mk hS
    obtain ⟨r, hr⟩ : ∃ r, RR 30 x = r := ⟨_, rfl⟩
    have HCN := Aside0.mk ((cnt_rr 30 (by decide) x hS).trans hr)
    by_cases hlen : word.length > 30
    · have d1 : decide ((word.length : Int) > 30) = true := decide_eq_true (by omega)
      clear hp hr hS hlen
      go_enter Try.func6, Try.ntmps6
      go_wp2_with (first | (((with_reducible refine gate_dst (N := 2) rfl ?_); refine box_event ?hg (N := 2) ?hd (cs := #[.int .u8 x.f0, .int .u16 x.f1, .slice A x.f2.length c]) (t := 25) ?hr ?_; (case hd => rfl); (case hg => rfl); (case hr => first | (go_simp; done) | (go_simp; rfl)); intro gb hgb w1 hbox hb1); have HX := Aside0.mk hbox; have HB1 := Aside0.mk hb1; have y0 : w1.cell? ⟨gb, 0, none⟩ = some (.int .u8 x.f0) := (blk_cell HX.out 0).trans rfl; have y1 : w1.cell? ⟨gb, 1, none⟩ = some (.int .u16 x.f1) := (blk_cell HX.out 1).trans rfl; have y2 : w1.cell? ⟨gb, 2, none⟩ = some (.slice A x.f2.length c) := (blk_cell HX.out 2).trans rfl; clear hgb hbox hb1) | (go_at_call 8; have hh := alive_calls w1; with_reducible refine hh.mono ?_; clear hh; rintro e w2 ⟨rfl, hb⟩; have HB2 := Aside0.mk (below_in HB1.out hb); replace y0 := cell_below y0 hb; replace y1 := cell_below y1 hb; replace y2 := cell_below y2 hb; clear hb) | (go_at_call 9; have hh := great30 x A c false w2 (Kd.C_below HC.out HB2.out) hc HP.out; with_reducible refine hh.mono ?_; clear hh; rintro e w3 ⟨rfl, hb⟩; have HB3 := Aside0.mk (below_in HB2.out hb); replace y0 := cell_below y0 hb; replace y1 := cell_below y1 hb; replace y2 := cell_below y2 hb; clear hb))
      go_ret
      exact ⟨rfl, HB3.out⟩
    · have d1 : decide ((word.length : Int) > 30) = false := decide_eq_false (by omega)
      have hl : word.length ≤ 30 := by omega
      cases r with
      | false =>
        clear hp hr hS hlen
        go_enter Try.func6, Try.ntmps6
        go_wp2_with (first | (((with_reducible refine gate_dst (N := 2) rfl ?_); refine box_event ?hg (N := 2) ?hd (cs := #[.int .u8 x.f0, .int .u16 x.f1, .slice A x.f2.length c]) (t := 25) ?hr ?_; (case hd => rfl); (case hg => rfl); (case hr => first | (go_simp; done) | (go_simp; rfl)); intro gb hgb w1 hbox hb1); have HX := Aside0.mk hbox; have HB1 := Aside0.mk hb1; have y0 : w1.cell? ⟨gb, 0, none⟩ = some (.int .u8 x.f0) := (blk_cell HX.out 0).trans rfl; have y1 : w1.cell? ⟨gb, 1, none⟩ = some (.int .u16 x.f1) := (blk_cell HX.out 1).trans rfl; have y2 : w1.cell? ⟨gb, 2, none⟩ = some (.slice A x.f2.length c) := (blk_cell HX.out 2).trans rfl; clear hgb hbox hb1) | (go_at_call 8; have hh := alive_calls w1; with_reducible refine hh.mono ?_; clear hh; rintro e w2 ⟨rfl, hb⟩; have HB2 := Aside0.mk (below_in HB1.out hb); replace y0 := cell_below y0 hb; replace y1 := cell_below y1 hb; replace y2 := cell_below y2 hb; clear hb) | (go_at_call 9; have hh := great30 x A c false w2 (Kd.C_below HC.out HB2.out) hc HP.out; with_reducible refine hh.mono ?_; clear hh; rintro e w3 ⟨rfl, hb⟩; have HB3 := Aside0.mk (below_in HB2.out hb); replace y0 := cell_below y0 hb; replace y1 := cell_below y1 hb; replace y2 := cell_below y2 hb; clear hb) | (go_at_call 13; have hh := right_calls 30 x A c false w3 HS.out (Kd.C_below HC.out HB3.out) hc HCN.out; with_reducible refine hh.mono ?_; clear hh; rintro e w4 ⟨rfl, hb⟩; have HB4 := Aside0.mk (below_in HB3.out hb); replace y0 := cell_below y0 hb; replace y1 := cell_below y1 hb; replace y2 := cell_below y2 hb; clear hb))
        go_ret
        exact ⟨rfl, HB4.out⟩
      | true =>
        obtain ⟨s1, s2, hs⟩ := (rr_iff 30 (by decide) x hS).1 hr
        have HSH := Aside0.mk hs
        obtain ⟨t, ht⟩ : ∃ t, turN 30 x = t := ⟨_, rfl⟩
        have HT := Aside0.mk (show TurnT 30 x true = t from ht)
        have hSt : Sm 30 t := ht ▸ tur_sm 30 x hS
        have hst : shN 30 t = true := by rw [← ht, tur_sh]; exact hs
        have hrt : RR 30 t = true := (rr_iff 30 (by decide) t hSt).2 ⟨by rw [← ht, tur_dep]; exact s1, by rw [← ht, tur_nod]; exact s2, hst⟩
        have HST := Aside0.mk hSt
        have HSHT := Aside0.mk hst
        have HCNT := Aside0.mk ((cnt_rr 30 (by decide) t hSt).trans hrt)
        have HTT := Aside0.mk (show TurnT 30 t true = x by show turN 30 t = x; rw [← ht, turN_turN])
        obtain ⟨b, hb⟩ := has_ex 30 x word
        have HM := Aside0.mk hb
        have HMT := Aside0.mk (show HasR 30 t word.reverse b by unfold HasR; rw [← ht, List.length_reverse, ← M_turn_all okc word 30 x hs]; exact hb)
        obtain ⟨eb, he⟩ : ∃ eb, empN 30 x = eb := ⟨_, rfl⟩
        have HE := Aside0.mk (show (if true = true then empN 30 x else false) = eb by rw [if_pos rfl, he])
        have HET := Aside0.mk (show (if true = true then empN 30 t else false) = eb by rw [if_pos rfl, ← ht, tur_emp, he])
        obtain ⟨m, hm⟩ : ∃ m : Int, rnN 30 x = m := ⟨_, rfl⟩
        obtain ⟨v, hv⟩ : ∃ v : Int, (rdD 12 x : Int) = v := ⟨_, rfl⟩
        have HN := Aside0.mk (show (if true = true then wlk see28 30 x 1 0 else 0) = m by rw [if_pos rfl, nodes_eq 30 (by decide) x hS hr, hm])
        have HD := Aside0.mk (show (if true = true then wlk see29 30 x 1 0 else 0) = v by rw [if_pos rfl, deep_eq 30 (by decide) x hS hr, hv])
        have HNT := Aside0.mk (show (if true = true then wlk see28 30 t 1 0 else 0) = m by
          rw [if_pos rfl, nodes_eq 30 (by decide) t hSt hrt, ← hm, (rn_spec 30 (by decide) t hSt).2.2.1 (by rw [← ht, tur_nod]; exact s2), (rn_spec 30 (by decide) x hS).2.2.1 s2, ← ht, tur_nod])
        have HDT := Aside0.mk (show (if true = true then wlk see29 30 t 1 0 else 0) = v by
          rw [if_pos rfl, deep_eq 30 (by decide) t hSt hrt, ← hv, rdD_min 30 t 12 hSt, rdD_min 30 x 12 hS, ← ht, tur_dep])
        obtain ⟨i0, hi, hz0, hz1, hz2⟩ := info_parts info3
        clear hp hr hS hlen s1 s2 hs ht hSt hst hrt hb he hm hv
        go_enter Try.func6, Try.ntmps6
        go_wp2_with (first | (((with_reducible refine gate_dst (N := 2) rfl ?_); refine box_event ?hg (N := 2) ?hd (cs := #[.int .u8 x.f0, .int .u16 x.f1, .slice A x.f2.length c]) (t := 25) ?hr ?_; (case hd => rfl); (case hg => rfl); (case hr => first | (go_simp; done) | (go_simp; rfl)); intro gb hgb w1 hbox hb1); have HX := Aside0.mk hbox; have HB1 := Aside0.mk hb1; have y0 : w1.cell? ⟨gb, 0, none⟩ = some (.int .u8 x.f0) := (blk_cell HX.out 0).trans rfl; have y1 : w1.cell? ⟨gb, 1, none⟩ = some (.int .u16 x.f1) := (blk_cell HX.out 1).trans rfl; have y2 : w1.cell? ⟨gb, 2, none⟩ = some (.slice A x.f2.length c) := (blk_cell HX.out 2).trans rfl; clear hgb hbox hb1) | (go_at_call 8; have hh := alive_calls w1; with_reducible refine hh.mono ?_; clear hh; rintro e w2 ⟨rfl, hb⟩; have HB2 := Aside0.mk (below_in HB1.out hb); replace y0 := cell_below y0 hb; replace y1 := cell_below y1 hb; replace y2 := cell_below y2 hb; clear hb) | (go_at_call 9; have hh := great30 x A c false w2 (Kd.C_below HC.out HB2.out) hc HP.out; with_reducible refine hh.mono ?_; clear hh; rintro e w3 ⟨rfl, hb⟩; have HB3 := Aside0.mk (below_in HB2.out hb); replace y0 := cell_below y0 hb; replace y1 := cell_below y1 hb; replace y2 := cell_below y2 hb; clear hb) | (go_at_call 13; have hh := right_calls 30 x A c true w3 HS.out (Kd.C_below HC.out HB3.out) hc HCN.out; with_reducible refine hh.mono ?_; clear hh; rintro e w4 ⟨rfl, hb⟩; have HB4 := Aside0.mk (below_in HB3.out hb); replace y0 := cell_below y0 hb; replace y1 := cell_below y1 hb; replace y2 := cell_below y2 hb; clear hb) | (go_at_call 16; have hh := bturned_calls 30 x t A c true w4 HS.out (Kd.C_below HC.out HB4.out) hc HCN.out HT.out; with_reducible refine hh.mono ?_; clear hh; rintro e w5 ⟨At, ct, rfl, hct, hF, hb⟩; have HB5 := Aside0.mk (below_in HB4.out hb); have HCT5 := Aside0.mk (Kd.F_now hF); replace y0 := cell_below y0 hb; replace y1 := cell_below y1 hb; replace y2 := cell_below y2 hb; clear hF hb))
        obtain ⟨w6, hw6⟩ : ∃ w6, w5.alloc (.cells #[.int .u8 t.f0, .int .u16 t.f1, .slice At t.f2.length ct] 25 (0, 0)) = w6 := ⟨_, rfl⟩
        have hbox := blk_new w5 (.cells #[.int .u8 t.f0, .int .u16 t.f1, .slice At t.f2.length ct] 25 (0, 0))
        have hb : Below w5.heap.size w5 (w5.alloc (.cells #[.int .u8 t.f0, .int .u16 t.f1, .slice At t.f2.length ct] 25 (0, 0))) := below_alloc (Below.refl _ _) _
        rw [hw6] at hbox hb ⊢
        have HB6 := Aside0.mk (below_in HB5.out hb)
        have HCT := Aside0.mk (Kd.C_below HCT5.out hb)
        replace y0 := cell_below y0 hb; replace y1 := cell_below y1 hb; replace y2 := cell_below y2 hb
        obtain ⟨gt, hgt⟩ : ∃ gt, w5.heap.size = gt := ⟨_, rfl⟩
        rw [hgt] at hbox ⊢
        have HX6 := Aside0.mk hbox
        have t0 : w6.cell? ⟨gt, 0, none⟩ = some (.int .u8 t.f0) := (blk_cell HX6.out 0).trans rfl; have t1 : w6.cell? ⟨gt, 1, none⟩ = some (.int .u16 t.f1) := (blk_cell HX6.out 1).trans rfl; have t2 : w6.cell? ⟨gt, 2, none⟩ = some (.slice At t.f2.length ct) := (blk_cell HX6.out 2).trans rfl
        clear hw6 hgt hbox hb
        go_loopw [6, 7] (fun v i wr => ∃ d : Nat, d ≤ word.length ∧ i = .int .i64 ((d : Int) - 1) ∧ wr.ownsRow w6.heap.size 3 1 v (word.length - d) (nums .i64 (word.reverse.take (word.length - d))) ∧ Below w6.heap.size w6 wr) (fun _ i _ => (intOf i + 1).toNat)
        case atStart => exact ⟨word.length, Nat.le_refl _, rfl, by rw [Nat.sub_self]; exact World.ownsRow_nil _ _ _ _, Below.refl _ _⟩
        case round =>
          obtain ⟨d, hk, rfl, hown, hb⟩ := hrel
          have hsz1 := hb.size
          cases d with
          | zero =>
            have hown' : wr.ownsRow w6.heap.size 3 1 u6 word.length (nums .i64 word.reverse) := by
              rw [Nat.sub_zero, List.take_of_length_le (by rw [List.length_reverse]; omega)] at hown
              exact hown
            obtain ⟨A5, c5, rfl, hR5⟩ := own_reads hown'
            have HC5 := Aside0.mk (show Kd.C (Kd.int .i64) wr A5 word.length word.reverse from Kd.C_of_reads (enc := Value.int .i64) (d := (0 : Int)) (h1 := fun _ => rfl) hR5)
            have hc5 := own_cap hown'
            replace y0 := cell_below y0 hb; replace y1 := cell_below y1 hb; replace y2 := cell_below y2 hb; replace t0 := cell_below t0 hb; replace t1 := cell_below t1 hb; replace t2 := cell_below t2 hb
            have HB7 := Aside0.mk (Below.refl wr.heap.size wr)
            have HBW := Aside0.mk (below_in HB6.out hb)
            have HCX := Aside0.mk (Kd.C_below HC.out HBW.out)
            have HCW := Aside0.mk (Kd.C_below HC1.out HBW.out)
            have HCTT := Aside0.mk (Kd.C_below HCT.out hb)
            clear hown hown' hR5 hb hsz1
            go_wp2
            go_region_held3 (fun w' => w'.cell? ⟨gb, 0, none⟩ = some (.int .u8 x.f0) ∧ w'.cell? ⟨gb, 1, none⟩ = some (.int .u16 x.f1) ∧ w'.cell? ⟨gb, 2, none⟩ = some (.slice A x.f2.length c) ∧ w'.cell? ⟨gt, 0, none⟩ = some (.int .u8 t.f0) ∧ w'.cell? ⟨gt, 1, none⟩ = some (.int .u16 t.f1) ∧ w'.cell? ⟨gt, 2, none⟩ = some (.slice At t.f2.length ct)) (go_keep) (first | (go_at_call 19; have hh := fun W (hW : Below wr.heap.size wr W) => keep_calls (has_rn 30 x A c A1 c1 word.length word b W HS.out HSH.out hl rfl (Kd.C_below HCX.out hW) hc (Kd.C_below HCW.out hW) hc1 HM.out) hW; with_reducible refine Calls.mono (hh _ ?hw) ?_; (case hw => exact (by first | exact HB7.out | exact below_drew1 HB7.out | exact pw_below_drewN HB7.out _)); clear hh; rintro e w8 ⟨rfl, hb, hk⟩; have HB8 := Aside0.mk hb; have y0_8 : w8.cell? ⟨gb, 0, none⟩ = some (.int .u8 x.f0) := (by first | exact hk _ _ y0 | exact hk _ _ (cell_drew1 y0)); have y1_8 : w8.cell? ⟨gb, 1, none⟩ = some (.int .u16 x.f1) := (by first | exact hk _ _ y1 | exact hk _ _ (cell_drew1 y1)); have y2_8 : w8.cell? ⟨gb, 2, none⟩ = some (.slice A x.f2.length c) := (by first | exact hk _ _ y2 | exact hk _ _ (cell_drew1 y2)); have t0_8 : w8.cell? ⟨gt, 0, none⟩ = some (.int .u8 t.f0) := (by first | exact hk _ _ t0 | exact hk _ _ (cell_drew1 t0)); have t1_8 : w8.cell? ⟨gt, 1, none⟩ = some (.int .u16 t.f1) := (by first | exact hk _ _ t1 | exact hk _ _ (cell_drew1 t1)); have t2_8 : w8.cell? ⟨gt, 2, none⟩ = some (.slice At t.f2.length ct) := (by first | exact hk _ _ t2 | exact hk _ _ (cell_drew1 t2)); clear hb hk) | (go_at_call 19; have hh := fun W (hW : Below wr.heap.size wr W) => keep_calls (has_rn 30 t At ct A5 c5 word.length word.reverse b W HST.out HSHT.out hl List.length_reverse (Kd.C_below HCTT.out hW) hct (Kd.C_below HC5.out hW) hc5 HMT.out) hW; with_reducible refine Calls.mono (hh _ ?hw) ?_; (case hw => exact (by first | exact HB8.out | exact below_drew1 HB8.out | exact pw_below_drewN HB8.out _)); clear hh; rintro e w9 ⟨rfl, hb, hk⟩; have HB9 := Aside0.mk hb; have y0_9 : w9.cell? ⟨gb, 0, none⟩ = some (.int .u8 x.f0) := (by first | exact hk _ _ y0_8 | exact hk _ _ (cell_drew1 y0_8)); have y1_9 : w9.cell? ⟨gb, 1, none⟩ = some (.int .u16 x.f1) := (by first | exact hk _ _ y1_8 | exact hk _ _ (cell_drew1 y1_8)); have y2_9 : w9.cell? ⟨gb, 2, none⟩ = some (.slice A x.f2.length c) := (by first | exact hk _ _ y2_8 | exact hk _ _ (cell_drew1 y2_8)); have t0_9 : w9.cell? ⟨gt, 0, none⟩ = some (.int .u8 t.f0) := (by first | exact hk _ _ t0_8 | exact hk _ _ (cell_drew1 t0_8)); have t1_9 : w9.cell? ⟨gt, 1, none⟩ = some (.int .u16 t.f1) := (by first | exact hk _ _ t1_8 | exact hk _ _ (cell_drew1 t1_8)); have t2_9 : w9.cell? ⟨gt, 2, none⟩ = some (.slice At t.f2.length ct) := (by first | exact hk _ _ t2_8 | exact hk _ _ (cell_drew1 t2_8)); clear hb hk) | (go_at_call 16; have hh := fun W (hW : Below wr.heap.size wr W) => keep_turn (bturned_calls 30 t x At ct true W HST.out (Kd.C_below HCTT.out hW) hct HCNT.out HTT.out) hW; with_reducible refine Calls.mono (hh _ ?hw) ?_; (case hw => exact (by first | exact HB9.out | exact below_drew1 HB9.out | exact pw_below_drewN HB9.out _)); clear hh; rintro e w10 ⟨A8, c8, rfl, hc8, hC8, hb, hk⟩; have HB10 := Aside0.mk hb; have y0_10 : w10.cell? ⟨gb, 0, none⟩ = some (.int .u8 x.f0) := (by first | exact hk _ _ y0_9 | exact hk _ _ (cell_drew1 y0_9)); have y1_10 : w10.cell? ⟨gb, 1, none⟩ = some (.int .u16 x.f1) := (by first | exact hk _ _ y1_9 | exact hk _ _ (cell_drew1 y1_9)); have y2_10 : w10.cell? ⟨gb, 2, none⟩ = some (.slice A x.f2.length c) := (by first | exact hk _ _ y2_9 | exact hk _ _ (cell_drew1 y2_9)); have t0_10 : w10.cell? ⟨gt, 0, none⟩ = some (.int .u8 t.f0) := (by first | exact hk _ _ t0_9 | exact hk _ _ (cell_drew1 t0_9)); have t1_10 : w10.cell? ⟨gt, 1, none⟩ = some (.int .u16 t.f1) := (by first | exact hk _ _ t1_9 | exact hk _ _ (cell_drew1 t1_9)); have t2_10 : w10.cell? ⟨gt, 2, none⟩ = some (.slice At t.f2.length ct) := (by first | exact hk _ _ t2_9 | exact hk _ _ (cell_drew1 t2_9)); have HC8 := Aside0.mk hC8; clear hC8; clear hb hk) | (go_at_call 23; have hh := fun W (hW : Below wr.heap.size wr W) (hV : Below w10.heap.size w10 W) => keep_calls (same_calls 30 x x A8 A c8 c true W HS.out (Kd.C_below HC8.out hV) hc8 (Kd.C_below HCX.out hW) hc (samN_refl 30 x)) hW; with_reducible refine Calls.mono (hh _ ?hw ?hv) ?_; (case hw => exact (by first | exact HB10.out | exact below_drew1 HB10.out | exact pw_below_drewN HB10.out _)); (case hv => first | exact Below.refl _ _ | exact below_drew1 (Below.refl _ _) | exact pw_below_drewN (Below.refl _ _) _); clear hh; rintro e w11 ⟨rfl, hb, hk⟩; have HB11 := Aside0.mk hb; have y0_11 : w11.cell? ⟨gb, 0, none⟩ = some (.int .u8 x.f0) := (by first | exact hk _ _ y0_10 | exact hk _ _ (cell_drew1 y0_10)); have y1_11 : w11.cell? ⟨gb, 1, none⟩ = some (.int .u16 x.f1) := (by first | exact hk _ _ y1_10 | exact hk _ _ (cell_drew1 y1_10)); have y2_11 : w11.cell? ⟨gb, 2, none⟩ = some (.slice A x.f2.length c) := (by first | exact hk _ _ y2_10 | exact hk _ _ (cell_drew1 y2_10)); have t0_11 : w11.cell? ⟨gt, 0, none⟩ = some (.int .u8 t.f0) := (by first | exact hk _ _ t0_10 | exact hk _ _ (cell_drew1 t0_10)); have t1_11 : w11.cell? ⟨gt, 1, none⟩ = some (.int .u16 t.f1) := (by first | exact hk _ _ t1_10 | exact hk _ _ (cell_drew1 t1_10)); have t2_11 : w11.cell? ⟨gt, 2, none⟩ = some (.slice At t.f2.length ct) := (by first | exact hk _ _ t2_10 | exact hk _ _ (cell_drew1 t2_10)); clear hb hk) | (go_at_call 17; have hh := fun W (hW : Below wr.heap.size wr W) => keep_calls (empty_calls 30 t At ct true eb W HST.out (Kd.C_below HCTT.out hW) hct HCNT.out HET.out) hW; with_reducible refine Calls.mono (hh _ ?hw) ?_; (case hw => exact (by first | exact HB11.out | exact below_drew1 HB11.out | exact pw_below_drewN HB11.out _)); clear hh; rintro e w12 ⟨rfl, hb, hk⟩; have HB12 := Aside0.mk hb; have y0_12 : w12.cell? ⟨gb, 0, none⟩ = some (.int .u8 x.f0) := (by first | exact hk _ _ y0_11 | exact hk _ _ (cell_drew1 y0_11)); have y1_12 : w12.cell? ⟨gb, 1, none⟩ = some (.int .u16 x.f1) := (by first | exact hk _ _ y1_11 | exact hk _ _ (cell_drew1 y1_11)); have y2_12 : w12.cell? ⟨gb, 2, none⟩ = some (.slice A x.f2.length c) := (by first | exact hk _ _ y2_11 | exact hk _ _ (cell_drew1 y2_11)); have t0_12 : w12.cell? ⟨gt, 0, none⟩ = some (.int .u8 t.f0) := (by first | exact hk _ _ t0_11 | exact hk _ _ (cell_drew1 t0_11)); have t1_12 : w12.cell? ⟨gt, 1, none⟩ = some (.int .u16 t.f1) := (by first | exact hk _ _ t1_11 | exact hk _ _ (cell_drew1 t1_11)); have t2_12 : w12.cell? ⟨gt, 2, none⟩ = some (.slice At t.f2.length ct) := (by first | exact hk _ _ t2_11 | exact hk _ _ (cell_drew1 t2_11)); clear hb hk) | (go_at_call 17; have hh := fun W (hW : Below wr.heap.size wr W) => keep_calls (empty_calls 30 x A c true eb W HS.out (Kd.C_below HCX.out hW) hc HCN.out HE.out) hW; with_reducible refine Calls.mono (hh _ ?hw) ?_; (case hw => exact (by first | exact HB12.out | exact below_drew1 HB12.out | exact pw_below_drewN HB12.out _)); clear hh; rintro e w13 ⟨rfl, hb, hk⟩; have HB13 := Aside0.mk hb; have y0_13 : w13.cell? ⟨gb, 0, none⟩ = some (.int .u8 x.f0) := (by first | exact hk _ _ y0_12 | exact hk _ _ (cell_drew1 y0_12)); have y1_13 : w13.cell? ⟨gb, 1, none⟩ = some (.int .u16 x.f1) := (by first | exact hk _ _ y1_12 | exact hk _ _ (cell_drew1 y1_12)); have y2_13 : w13.cell? ⟨gb, 2, none⟩ = some (.slice A x.f2.length c) := (by first | exact hk _ _ y2_12 | exact hk _ _ (cell_drew1 y2_12)); have t0_13 : w13.cell? ⟨gt, 0, none⟩ = some (.int .u8 t.f0) := (by first | exact hk _ _ t0_12 | exact hk _ _ (cell_drew1 t0_12)); have t1_13 : w13.cell? ⟨gt, 1, none⟩ = some (.int .u16 t.f1) := (by first | exact hk _ _ t1_12 | exact hk _ _ (cell_drew1 t1_12)); have t2_13 : w13.cell? ⟨gt, 2, none⟩ = some (.slice At t.f2.length ct) := (by first | exact hk _ _ t2_12 | exact hk _ _ (cell_drew1 t2_12)); clear hb hk) | (go_at_call 14; have hh := fun W (hW : Below wr.heap.size wr W) => keep_calls (nodes_calls 30 t At ct true m W (by decide) HST.out (Kd.C_below HCTT.out hW) hct HCNT.out HNT.out) hW; with_reducible refine Calls.mono (hh _ ?hw) ?_; (case hw => exact (by first | exact HB13.out | exact below_drew1 HB13.out | exact pw_below_drewN HB13.out _)); clear hh; rintro e w14 ⟨rfl, hb, hk⟩; have HB14 := Aside0.mk hb; have y0_14 : w14.cell? ⟨gb, 0, none⟩ = some (.int .u8 x.f0) := (by first | exact hk _ _ y0_13 | exact hk _ _ (cell_drew1 y0_13)); have y1_14 : w14.cell? ⟨gb, 1, none⟩ = some (.int .u16 x.f1) := (by first | exact hk _ _ y1_13 | exact hk _ _ (cell_drew1 y1_13)); have y2_14 : w14.cell? ⟨gb, 2, none⟩ = some (.slice A x.f2.length c) := (by first | exact hk _ _ y2_13 | exact hk _ _ (cell_drew1 y2_13)); have t0_14 : w14.cell? ⟨gt, 0, none⟩ = some (.int .u8 t.f0) := (by first | exact hk _ _ t0_13 | exact hk _ _ (cell_drew1 t0_13)); have t1_14 : w14.cell? ⟨gt, 1, none⟩ = some (.int .u16 t.f1) := (by first | exact hk _ _ t1_13 | exact hk _ _ (cell_drew1 t1_13)); have t2_14 : w14.cell? ⟨gt, 2, none⟩ = some (.slice At t.f2.length ct) := (by first | exact hk _ _ t2_13 | exact hk _ _ (cell_drew1 t2_13)); clear hb hk) | (go_at_call 14; have hh := fun W (hW : Below wr.heap.size wr W) => keep_calls (nodes_calls 30 x A c true m W (by decide) HS.out (Kd.C_below HCX.out hW) hc HCN.out HN.out) hW; with_reducible refine Calls.mono (hh _ ?hw) ?_; (case hw => exact (by first | exact HB14.out | exact below_drew1 HB14.out | exact pw_below_drewN HB14.out _)); clear hh; rintro e w15 ⟨rfl, hb, hk⟩; have HB15 := Aside0.mk hb; have y0_15 : w15.cell? ⟨gb, 0, none⟩ = some (.int .u8 x.f0) := (by first | exact hk _ _ y0_14 | exact hk _ _ (cell_drew1 y0_14)); have y1_15 : w15.cell? ⟨gb, 1, none⟩ = some (.int .u16 x.f1) := (by first | exact hk _ _ y1_14 | exact hk _ _ (cell_drew1 y1_14)); have y2_15 : w15.cell? ⟨gb, 2, none⟩ = some (.slice A x.f2.length c) := (by first | exact hk _ _ y2_14 | exact hk _ _ (cell_drew1 y2_14)); have t0_15 : w15.cell? ⟨gt, 0, none⟩ = some (.int .u8 t.f0) := (by first | exact hk _ _ t0_14 | exact hk _ _ (cell_drew1 t0_14)); have t1_15 : w15.cell? ⟨gt, 1, none⟩ = some (.int .u16 t.f1) := (by first | exact hk _ _ t1_14 | exact hk _ _ (cell_drew1 t1_14)); have t2_15 : w15.cell? ⟨gt, 2, none⟩ = some (.slice At t.f2.length ct) := (by first | exact hk _ _ t2_14 | exact hk _ _ (cell_drew1 t2_14)); clear hb hk) | (go_at_call 15; have hh := fun W (hW : Below wr.heap.size wr W) => keep_calls (deep_calls 30 t At ct true v W (by decide) HST.out (Kd.C_below HCTT.out hW) hct HCNT.out HDT.out) hW; with_reducible refine Calls.mono (hh _ ?hw) ?_; (case hw => exact (by first | exact HB15.out | exact below_drew1 HB15.out | exact pw_below_drewN HB15.out _)); clear hh; rintro e w16 ⟨rfl, hb, hk⟩; have HB16 := Aside0.mk hb; have y0_16 : w16.cell? ⟨gb, 0, none⟩ = some (.int .u8 x.f0) := (by first | exact hk _ _ y0_15 | exact hk _ _ (cell_drew1 y0_15)); have y1_16 : w16.cell? ⟨gb, 1, none⟩ = some (.int .u16 x.f1) := (by first | exact hk _ _ y1_15 | exact hk _ _ (cell_drew1 y1_15)); have y2_16 : w16.cell? ⟨gb, 2, none⟩ = some (.slice A x.f2.length c) := (by first | exact hk _ _ y2_15 | exact hk _ _ (cell_drew1 y2_15)); have t0_16 : w16.cell? ⟨gt, 0, none⟩ = some (.int .u8 t.f0) := (by first | exact hk _ _ t0_15 | exact hk _ _ (cell_drew1 t0_15)); have t1_16 : w16.cell? ⟨gt, 1, none⟩ = some (.int .u16 t.f1) := (by first | exact hk _ _ t1_15 | exact hk _ _ (cell_drew1 t1_15)); have t2_16 : w16.cell? ⟨gt, 2, none⟩ = some (.slice At t.f2.length ct) := (by first | exact hk _ _ t2_15 | exact hk _ _ (cell_drew1 t2_15)); clear hb hk) | (go_at_call 15; have hh := fun W (hW : Below wr.heap.size wr W) => keep_calls (deep_calls 30 x A c true v W (by decide) HS.out (Kd.C_below HCX.out hW) hc HCN.out HD.out) hW; with_reducible refine Calls.mono (hh _ ?hw) ?_; (case hw => exact (by first | exact HB16.out | exact below_drew1 HB16.out | exact pw_below_drewN HB16.out _)); clear hh; rintro e w17 ⟨rfl, hb, hk⟩; have HB17 := Aside0.mk hb; have y0_17 : w17.cell? ⟨gb, 0, none⟩ = some (.int .u8 x.f0) := (by first | exact hk _ _ y0_16 | exact hk _ _ (cell_drew1 y0_16)); have y1_17 : w17.cell? ⟨gb, 1, none⟩ = some (.int .u16 x.f1) := (by first | exact hk _ _ y1_16 | exact hk _ _ (cell_drew1 y1_16)); have y2_17 : w17.cell? ⟨gb, 2, none⟩ = some (.slice A x.f2.length c) := (by first | exact hk _ _ y2_16 | exact hk _ _ (cell_drew1 y2_16)); have t0_17 : w17.cell? ⟨gt, 0, none⟩ = some (.int .u8 t.f0) := (by first | exact hk _ _ t0_16 | exact hk _ _ (cell_drew1 t0_16)); have t1_17 : w17.cell? ⟨gt, 1, none⟩ = some (.int .u16 t.f1) := (by first | exact hk _ _ t1_16 | exact hk _ _ (cell_drew1 t1_16)); have t2_17 : w17.cell? ⟨gt, 2, none⟩ = some (.slice At t.f2.length ct) := (by first | exact hk _ _ t2_16 | exact hk _ _ (cell_drew1 t2_16)); clear hb hk))
            all_goals
              go_wp2
              go_ret
              first | exact ⟨rfl, below_in HBW.out HB17.out⟩ | exact ⟨rfl, below_in HBW.out (pw_below_drewN HB17.out _)⟩
          | succ m =>
            obtain ⟨ad0, e0, hx0⟩ := Kd.at_int (Kd.C_below HC1.out (below_in HB6.out hb)) (m : Int) (by omega) (by omega)
            subst e0
            rw [Int.toNat_natCast] at hx0
            have HBK := Aside0.mk (rev_take word m (by omega))
            go_wp2_with (at_builtin; refine wpList_append_own _ rfl _ _ 36 rfl w6.heap.size 3 i0 (.int .i64 0) 1 8 Try.underlying36 hi hz0 hz1 hz2 rfl (by decide) _ _ _ rfl (hown.alloc _) ⟨wr.heap.size, 0, none⟩ 1 1 [.int .i64 (rd word (m : Int))] rfl rfl ?c1 ?c2 ?c3 ?c4 ?c5 ?_)
            case c1 => exact one_new _ _
            case c2 => intro u hu; simp at hu; subst hu; rfl
            case c3 => unfold maxLen; omega
            case c4 => omega
            case c5 => simp; omega
            intro v' w2' hown1 hgrow1 _
            have hb2 : Below w6.heap.size w6 w2' := (hb.alloc hb.size _).grown hgrow1 (by simp; omega) (fun j hj => (hown.lt j hj).1)
            go_wp2
            go_roundw
            case rel => exact ⟨m, by omega, rfl, by rw [show word.length - m = word.length - (m + 1) + 1 by omega, HBK.out]; simpa [nums] using hown1, hb2⟩
            case measure => simp [intOf]
end Go.Proofs.Ytbhkjaiaglkgjaa

