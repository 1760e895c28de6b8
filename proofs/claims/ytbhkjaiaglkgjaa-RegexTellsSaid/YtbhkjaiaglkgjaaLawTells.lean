/- The law RegexTells answers true: its walk. Condition: the numbers are of their kinds. -/
import Derived.Test.YtbhkjaiaglkgjaaFirstPlain
import Derived.Test.YtbhkjaiaglkgjaaRTurned
import Derived.Test.YtbhkjaiaglkgjaaRRight
namespace Go.Proofs.Ytbhkjaiaglkgjaa
open Go.RowKit Go.Proofs.YtbhkjaiaglkgjaaW.PrintWords Go.Proofs.YtbhkjaiaglkgjaaW.PrintLast Go.Proofs.YtbhkjaiaglkgjaaW.PrintMore
open PRegexTells

theorem maxL_mem : ∀ (l : List Nat) (a : Nat), a ∈ l → a ≤ maxL l
  | b :: r, a, h => by
    rw [maxL]
    rcases List.mem_cons.1 h with rfl | h
    · omega
    · have := maxL_mem r a h; omega
theorem sm_dep (n : Nat) : ∀ (x : S25) (m : Nat), Sm n x → depN n x ≤ m → Sm m x := by
  induction n with
  | zero => intro x m h; exact h.elim
  | succ n ih =>
    intro x m h hd
    rw [depN] at hd
    obtain ⟨m, rfl⟩ : ∃ q, m = q + 1 := ⟨m - 1, by omega⟩
    refine ⟨h.1, fun k hk => ih k m (h.2 k hk) ?_⟩
    have := maxL_mem (x.f2.map (depN n)) (depN n k) (List.mem_map_of_mem hk)
    omega
theorem has_nil_calls (n : Nat) (x : S25) (A : Option Addr) (c : Nat) (r : Bool) (w : World) (hS : Sm n x) (hs : shN n x = true) (hC : Kd.C k25 w A x.f2.length x.f2) (hc : x.f2.length ≤ c) (hr : empN n x = r) :
    Calls Try.prog 19 #[.agg #[.int .u8 x.f0, .int .u16 x.f1, .slice A x.f2.length c], .slice none 0 0] w fun e w' => e = .returned (.bool r) ∧ Below w.heap.size w w' :=
  has_calls n x A c none 0 [] r w hS hs (by simp) hC hc (Kd.C_nil _ _) (Nat.le_refl _) (by rw [← hr]; exact (M_emp okc [] n x 0 (Nat.le_refl _) hs).symm)
theorem rsame13 (x y : S25) (A B : Option Addr) (c d : Nat) (b : Bool) (w : World) (hS : Sm 12 x) (hC : Kd.C k25 w A x.f2.length x.f2) (hc : x.f2.length ≤ c) (hC2 : Kd.C k25 w B y.f2.length y.f2) (hc2 : y.f2.length ≤ d) (hb : samN 12 x y = b) :
    Calls Try.prog 21 #[.agg #[.int .u8 x.f0, .int .u16 x.f1, .slice A x.f2.length c], .agg #[.int .u8 y.f0, .int .u16 y.f1, .slice B y.f2.length d], .int .i64 13] w fun e w' => e = .returned (.bool b) ∧ Below w.heap.size w w' :=
  rsame_calls 12 13 (by decide) (by decide) x y A B c d b w hS hC hc hC2 hc2 hb
theorem bturned_none (n : Nat) (x : S25) (A : Option Addr) (c : Nat) (w : World) (hS : Sm n x) (hC : Kd.C k25 w A x.f2.length x.f2) (hc : x.f2.length ≤ c) (hr : (cnt 12 x 100).1 = false) :
    Calls Try.prog 16 #[.agg #[.int .u8 x.f0, .int .u16 x.f1, .slice A x.f2.length c]] w fun e w' => ∃ A' c', e = .returned (.agg #[.int .u8 0, .int .u16 0, .slice A' 0 c']) ∧ Below w.heap.size w w' :=
  (bturned_calls n x ⟨0, 0, []⟩ A c false w hS hC hc hr rfl).mono fun _ _ ⟨A', c', h1, _, _, h4⟩ => ⟨A', c', h1, h4⟩
def Row (W w0 w' : World) (x : S25) (e : Ending) : Prop := ∃ A' c', e = .returned (.agg #[.int .u8 x.f0, .int .u16 x.f1, .slice A' x.f2.length c']) ∧ x.f2.length ≤ c' ∧ Kd.C k25 w' A' x.f2.length x.f2 ∧ Below w0.heap.size w0 w' ∧ (∀ a u, W.cell? a = some u → w'.cell? a = some u) ∧ ∀ B n l, Kd.C k25 W B n l → Kd.C k25 w' B n l
theorem row_out {W w0 w' : World} {x : S25} {e : Ending} (h : Row W w0 w' x e) : ∃ A' c', e = .returned (.agg #[.int .u8 x.f0, .int .u16 x.f1, .slice A' x.f2.length c']) ∧ x.f2.length ≤ c' ∧ Kd.C k25 w' A' x.f2.length x.f2 ∧ Below w0.heap.size w0 w' ∧ (∀ a u, W.cell? a = some u → w'.cell? a = some u) ∧ ∀ B n l, Kd.C k25 W B n l → Kd.C k25 w' B n l := h
theorem row_bturned {w0 : World} (n : Nat) (x t : S25) (A : Option Addr) (c : Nat) (W : World) (hS : Sm n x) (hC : Kd.C k25 W A x.f2.length x.f2) (hc : x.f2.length ≤ c) (hr : (cnt 12 x 100).1 = true) (ht : TurnT n x true = t) (hW : Below w0.heap.size w0 W) :
    Calls Try.prog 16 #[.agg #[.int .u8 x.f0, .int .u16 x.f1, .slice A x.f2.length c]] W fun e w' => Row W w0 w' t e :=
  (bturned_calls n x t A c true W hS hC hc hr ht).mono fun _ _ ⟨A', c', h1, h2, h3, h4⟩ => ⟨A', c', h1, h2, Kd.F_now h3, below_in hW h4, fun _ _ hc => cell_below hc h4, fun _ _ _ h => Kd.C_below h h4⟩
theorem row_rturned {w0 : World} (n : Nat) (x t : S25) (A : Option Addr) (c : Nat) (W : World) (hS : Sm n x) (hC : Kd.C k25 W A x.f2.length x.f2) (hc : x.f2.length ≤ c) (ht : turN n x = t) (hW : Below w0.heap.size w0 W) :
    Calls Try.prog 22 #[.agg #[.int .u8 x.f0, .int .u16 x.f1, .slice A x.f2.length c]] W fun e w' => Row W w0 w' t e := by
  refine (rturned_calls n x t A c W hS ht hC hc).mono ?_
  rintro e w' ⟨v, rfl, hR, h4⟩
  obtain ⟨A', c', rfl, h2, h3⟩ := Kd.R_reads hR
  exact ⟨A', c', rfl, h2, h3, below_in hW h4, fun _ _ hc => cell_below hc h4, fun _ _ _ h => Kd.C_below h h4⟩

set_option maxHeartbeats 3200000 in
set_option maxRecDepth 100000 in
theorem law_tells (x : S25) (A : Option Addr) (c : Nat) (w : World) (hC : Kd.C k25 w A x.f2.length x.f2) (hc : x.f2.length ≤ c) (hW : ∀ m, WfN m x) :
    Calls Try.prog 4 #[.agg #[.int .u8 x.f0, .int .u16 x.f1, .slice A x.f2.length c]] w fun e w' => e = .returned (.bool true) ∧ Below w.heap.size w w' := by
  have hu25 := Try.underlying25
  have HC := Aside0.mk hC
  have HW := Aside0.mk (hW 30)
  obtain ⟨p, hp⟩ : ∃ p, greN 30 x = p := ⟨_, rfl⟩
  have HP := Aside0.mk hp
  clear hC hW
  cases p with
  | true =>
    clear hp
    go_enter Try.func4, Try.ntmps4
    go_wp2_with (first | (((with_reducible refine gate_dst (N := 1) rfl ?_); refine box_event ?hg (N := 1) ?hd (cs := #[.int .u8 x.f0, .int .u16 x.f1, .slice A x.f2.length c]) (t := 25) ?hr ?_; (case hd => rfl); (case hg => rfl); (case hr => first | (go_simp; done) | (go_simp; rfl)); intro gb hgb w1 hbox hb1); have HX := Aside0.mk hbox; have HB1 := Aside0.mk hb1; have y0 : w1.cell? ⟨gb, 0, none⟩ = some (.int .u8 x.f0) := (blk_cell HX.out 0).trans rfl; have y1 : w1.cell? ⟨gb, 1, none⟩ = some (.int .u16 x.f1) := (blk_cell HX.out 1).trans rfl; have y2 : w1.cell? ⟨gb, 2, none⟩ = some (.slice A x.f2.length c) := (blk_cell HX.out 2).trans rfl; clear hgb hbox hb1) | (go_at_call 8; have hh := alive_calls w1; with_reducible refine hh.mono ?_; clear hh; rintro e w2 ⟨rfl, hb⟩; have HB2 := Aside0.mk (below_in HB1.out hb); replace y0 := cell_below y0 hb; replace y1 := cell_below y1 hb; replace y2 := cell_below y2 hb; clear hb) | (go_at_call 9; have hh := great30 x A c true w2 (Kd.C_below HC.out HB2.out) hc HP.out; with_reducible refine hh.mono ?_; clear hh; rintro e w3 ⟨rfl, hb⟩; have HB3 := Aside0.mk (below_in HB2.out hb); replace y0 := cell_below y0 hb; replace y1 := cell_below y1 hb; replace y2 := cell_below y2 hb; clear hb))
    go_ret
    exact ⟨rfl, HB3.out⟩
  | false =>
    have hS := gre_false 30 x hp
    have HS := Aside0.mk hS
    obtain ⟨r, hr⟩ : ∃ r, RR 30 x = r := ⟨_, rfl⟩
    have HR := Aside0.mk hr
    have HCN := Aside0.mk ((cnt_rr 30 (by decide) x hS).trans hr)
    cases r with
    | false =>
      clear hp hr hS
      go_enter Try.func4, Try.ntmps4
      go_wp2_with (first | (((with_reducible refine gate_dst (N := 1) rfl ?_); refine box_event ?hg (N := 1) ?hd (cs := #[.int .u8 x.f0, .int .u16 x.f1, .slice A x.f2.length c]) (t := 25) ?hr ?_; (case hd => rfl); (case hg => rfl); (case hr => first | (go_simp; done) | (go_simp; rfl)); intro gb hgb w1 hbox hb1); have HX := Aside0.mk hbox; have HB1 := Aside0.mk hb1; have y0 : w1.cell? ⟨gb, 0, none⟩ = some (.int .u8 x.f0) := (blk_cell HX.out 0).trans rfl; have y1 : w1.cell? ⟨gb, 1, none⟩ = some (.int .u16 x.f1) := (blk_cell HX.out 1).trans rfl; have y2 : w1.cell? ⟨gb, 2, none⟩ = some (.slice A x.f2.length c) := (blk_cell HX.out 2).trans rfl; clear hgb hbox hb1) | (go_at_call 8; have hh := alive_calls w1; with_reducible refine hh.mono ?_; clear hh; rintro e w2 ⟨rfl, hb⟩; have HB2 := Aside0.mk (below_in HB1.out hb); replace y0 := cell_below y0 hb; replace y1 := cell_below y1 hb; replace y2 := cell_below y2 hb; clear hb) | (go_at_call 9; have hh := great30 x A c false w2 (Kd.C_below HC.out HB2.out) hc HP.out; with_reducible refine hh.mono ?_; clear hh; rintro e w3 ⟨rfl, hb⟩; have HB3 := Aside0.mk (below_in HB2.out hb); replace y0 := cell_below y0 hb; replace y1 := cell_below y1 hb; replace y2 := cell_below y2 hb; clear hb) | (go_at_call 10; have hh := rright_calls 30 x A c false w3 HS.out HW.out (Kd.C_below HC.out HB3.out) hc HR.out; with_reducible refine hh.mono ?_; clear hh; rintro e w4 ⟨rfl, hb⟩; have HB4 := Aside0.mk (below_in HB3.out hb); replace y0 := cell_below y0 hb; replace y1 := cell_below y1 hb; replace y2 := cell_below y2 hb; clear hb) | (go_at_call 16; have hh := bturned_none 30 x A c w4 HS.out (Kd.C_below HC.out HB4.out) hc HCN.out; with_reducible refine hh.mono ?_; clear hh; rintro e w5 ⟨At, ct, rfl, hb⟩; have HB5 := Aside0.mk (below_in HB4.out hb); replace y0 := cell_below y0 hb; replace y1 := cell_below y1 hb; replace y2 := cell_below y2 hb; clear hb) | ((with_reducible refine gate_dst (N := 13) rfl ?_); obtain ⟨w6, hw6⟩ : ∃ w6, w5.alloc (.cells #[.int .u8 0, .int .u16 0, .slice At 0 ct] 25 (0, 0)) = w6 := ⟨_, rfl⟩; have hbox := blk_new w5 (.cells #[.int .u8 0, .int .u16 0, .slice At 0 ct] 25 (0, 0)); have hb : Below w5.heap.size w5 (w5.alloc (.cells #[.int .u8 0, .int .u16 0, .slice At 0 ct] 25 (0, 0))) := below_alloc (Below.refl _ _) _; rw [hw6] at hbox hb ⊢; have HB6 := Aside0.mk (below_in HB5.out hb); replace y0 := cell_below y0 hb; replace y1 := cell_below y1 hb; replace y2 := cell_below y2 hb; obtain ⟨gt, hgt⟩ : ∃ gt, w5.heap.size = gt := ⟨_, rfl⟩; rw [hgt] at hbox ⊢; have HX6 := Aside0.mk hbox; have t0 : w6.cell? ⟨gt, 0, none⟩ = some (.int .u8 0) := (blk_cell HX6.out 0).trans rfl; have t1 : w6.cell? ⟨gt, 1, none⟩ = some (.int .u16 0) := (blk_cell HX6.out 1).trans rfl; have t2 : w6.cell? ⟨gt, 2, none⟩ = some (.slice At 0 ct) := (blk_cell HX6.out 2).trans rfl; clear hw6 hgt hbox hb) | (go_at_call 17; have hh := empty_calls 30 x A c false false w6 HS.out (Kd.C_below HC.out HB6.out) hc HCN.out rfl; with_reducible refine hh.mono ?_; clear hh; rintro e w7 ⟨rfl, hb⟩; have HB7 := Aside0.mk (below_in HB6.out hb); replace y0 := cell_below y0 hb; replace y1 := cell_below y1 hb; replace y2 := cell_below y2 hb; replace t0 := cell_below t0 hb; replace t1 := cell_below t1 hb; replace t2 := cell_below t2 hb; clear hb) | (go_at_call 18; have hh := first_calls 30 x A c false 0 w7 HS.out (Kd.C_below HC.out HB7.out) hc HCN.out rfl; with_reducible refine hh.mono ?_; clear hh; rintro e w8 ⟨rfl, hb⟩; have HB8 := Aside0.mk (below_in HB7.out hb); replace y0 := cell_below y0 hb; replace y1 := cell_below y1 hb; replace y2 := cell_below y2 hb; replace t0 := cell_below t0 hb; replace t1 := cell_below t1 hb; replace t2 := cell_below t2 hb; clear hb))
      go_ret
      exact ⟨rfl, HB8.out⟩
    | true =>
      obtain ⟨s1, s2, hs⟩ := (rr_iff 30 (by decide) x hS).1 hr
      have HSH := Aside0.mk hs
      obtain ⟨t, ht⟩ : ∃ t, turN 30 x = t := ⟨_, rfl⟩
      have HT := Aside0.mk (show TurnT 30 x true = t from ht)
      have HTR := Aside0.mk ht
      have HST := Aside0.mk (sm_dep 30 t 12 (ht ▸ tur_sm 30 x hS) (by rw [← ht, tur_dep]; exact s1))
      obtain ⟨eb, he⟩ : ∃ eb, empN 30 x = eb := ⟨_, rfl⟩
      have HE := Aside0.mk (show (if true = true then empN 30 x else false) = eb by rw [if_pos rfl, he])
      have HEN := Aside0.mk he
      obtain ⟨u, hu⟩ : ∃ u, firN 30 x = u := ⟨_, rfl⟩
      have HF := Aside0.mk (show (if true = true then firN 30 x else 0) = u by rw [if_pos rfl, hu])
      have HFN := Aside0.mk hu
      clear hp hr hS s1 s2 hs ht he hu
      go_enter Try.func4, Try.ntmps4
      go_wp2_with (first | (((with_reducible refine gate_dst (N := 1) rfl ?_); refine box_event ?hg (N := 1) ?hd (cs := #[.int .u8 x.f0, .int .u16 x.f1, .slice A x.f2.length c]) (t := 25) ?hr ?_; (case hd => rfl); (case hg => rfl); (case hr => first | (go_simp; done) | (go_simp; rfl)); intro gb hgb w1 hbox hb1); have HX := Aside0.mk hbox; have HB1 := Aside0.mk hb1; have y0 : w1.cell? ⟨gb, 0, none⟩ = some (.int .u8 x.f0) := (blk_cell HX.out 0).trans rfl; have y1 : w1.cell? ⟨gb, 1, none⟩ = some (.int .u16 x.f1) := (blk_cell HX.out 1).trans rfl; have y2 : w1.cell? ⟨gb, 2, none⟩ = some (.slice A x.f2.length c) := (blk_cell HX.out 2).trans rfl; clear hgb hbox hb1) | (go_at_call 8; have hh := alive_calls w1; with_reducible refine hh.mono ?_; clear hh; rintro e w2 ⟨rfl, hb⟩; have HB2 := Aside0.mk (below_in HB1.out hb); replace y0 := cell_below y0 hb; replace y1 := cell_below y1 hb; replace y2 := cell_below y2 hb; clear hb) | (go_at_call 9; have hh := great30 x A c false w2 (Kd.C_below HC.out HB2.out) hc HP.out; with_reducible refine hh.mono ?_; clear hh; rintro e w3 ⟨rfl, hb⟩; have HB3 := Aside0.mk (below_in HB2.out hb); replace y0 := cell_below y0 hb; replace y1 := cell_below y1 hb; replace y2 := cell_below y2 hb; clear hb) | (go_at_call 10; have hh := rright_calls 30 x A c true w3 HS.out HW.out (Kd.C_below HC.out HB3.out) hc HR.out; with_reducible refine hh.mono ?_; clear hh; rintro e w4 ⟨rfl, hb⟩; have HB4 := Aside0.mk (below_in HB3.out hb); replace y0 := cell_below y0 hb; replace y1 := cell_below y1 hb; replace y2 := cell_below y2 hb; clear hb))
      go_region_held3 (fun w' => w'.cell? ⟨gb, 0, none⟩ = some (.int .u8 x.f0) ∧ w'.cell? ⟨gb, 1, none⟩ = some (.int .u16 x.f1) ∧ w'.cell? ⟨gb, 2, none⟩ = some (.slice A x.f2.length c)) (go_keep) (first | (go_at_call 17; have hh := fun W (hW : Below w.heap.size w W)  => keep_calls (empty_calls 30 x A c true eb W HS.out (Kd.C_below HC.out hW) hc HCN.out HE.out) hW; with_reducible refine Calls.mono (hh _ ?hw ) ?_; (case hw => exact (by first | exact HB4.out | exact below_drew1 HB4.out | exact pw_below_drewN HB4.out _));  clear hh; rintro e w5 ⟨rfl, hb, hk⟩; have HB5 := Aside0.mk hb; have y0_5 : w5.cell? ⟨gb, 0, none⟩ = some (.int .u8 x.f0) := (by first | exact hk _ _ y0 | exact hk _ _ (cell_drew1 y0)); have y1_5 : w5.cell? ⟨gb, 1, none⟩ = some (.int .u16 x.f1) := (by first | exact hk _ _ y1 | exact hk _ _ (cell_drew1 y1)); have y2_5 : w5.cell? ⟨gb, 2, none⟩ = some (.slice A x.f2.length c) := (by first | exact hk _ _ y2 | exact hk _ _ (cell_drew1 y2)); clear hb hk) | (go_at_call 19; have hh := fun W (hW : Below w.heap.size w W)  => keep_calls (has_nil_calls 30 x A c eb W HS.out HSH.out (Kd.C_below HC.out hW) hc HEN.out) hW; with_reducible refine Calls.mono (hh _ ?hw ) ?_; (case hw => exact (by first | exact HB5.out | exact below_drew1 HB5.out | exact pw_below_drewN HB5.out _));  clear hh; rintro e w6 ⟨rfl, hb, hk⟩; have HB6 := Aside0.mk hb; have y0_6 : w6.cell? ⟨gb, 0, none⟩ = some (.int .u8 x.f0) := (by first | exact hk _ _ y0_5 | exact hk _ _ (cell_drew1 y0_5)); have y1_6 : w6.cell? ⟨gb, 1, none⟩ = some (.int .u16 x.f1) := (by first | exact hk _ _ y1_5 | exact hk _ _ (cell_drew1 y1_5)); have y2_6 : w6.cell? ⟨gb, 2, none⟩ = some (.slice A x.f2.length c) := (by first | exact hk _ _ y2_5 | exact hk _ _ (cell_drew1 y2_5)); clear hb hk) | (go_at_call 18; have hh := fun W (hW : Below w.heap.size w W)  => keep_calls (first_calls 30 x A c true u W HS.out (Kd.C_below HC.out hW) hc HCN.out HF.out) hW; with_reducible refine Calls.mono (hh _ ?hw ) ?_; (case hw => exact (by first | exact HB6.out | exact below_drew1 HB6.out | exact pw_below_drewN HB6.out _));  clear hh; rintro e w7 ⟨rfl, hb, hk⟩; have HB7 := Aside0.mk hb; have y0_7 : w7.cell? ⟨gb, 0, none⟩ = some (.int .u8 x.f0) := (by first | exact hk _ _ y0_6 | exact hk _ _ (cell_drew1 y0_6)); have y1_7 : w7.cell? ⟨gb, 1, none⟩ = some (.int .u16 x.f1) := (by first | exact hk _ _ y1_6 | exact hk _ _ (cell_drew1 y1_6)); have y2_7 : w7.cell? ⟨gb, 2, none⟩ = some (.slice A x.f2.length c) := (by first | exact hk _ _ y2_6 | exact hk _ _ (cell_drew1 y2_6)); clear hb hk) | (go_at_call 20; have hh := fun W (hW : Below w.heap.size w W)  => keep_calls (rfirst_calls 30 x A c u W HS.out HSH.out (Kd.C_below HC.out hW) hc HFN.out) hW; with_reducible refine Calls.mono (hh _ ?hw ) ?_; (case hw => exact (by first | exact HB7.out | exact below_drew1 HB7.out | exact pw_below_drewN HB7.out _));  clear hh; rintro e w8 ⟨rfl, hb, hk⟩; have HB8 := Aside0.mk hb; have y0_8 : w8.cell? ⟨gb, 0, none⟩ = some (.int .u8 x.f0) := (by first | exact hk _ _ y0_7 | exact hk _ _ (cell_drew1 y0_7)); have y1_8 : w8.cell? ⟨gb, 1, none⟩ = some (.int .u16 x.f1) := (by first | exact hk _ _ y1_7 | exact hk _ _ (cell_drew1 y1_7)); have y2_8 : w8.cell? ⟨gb, 2, none⟩ = some (.slice A x.f2.length c) := (by first | exact hk _ _ y2_7 | exact hk _ _ (cell_drew1 y2_7)); clear hb hk) | (go_at_call 16; have hh := fun W (hW : Below w.heap.size w W)  => row_bturned 30 x t A c W HS.out (Kd.C_below HC.out hW) hc HCN.out HT.out hW; with_reducible refine Calls.mono (hh _ ?hw ) ?_; (case hw => exact (by first | exact HB8.out | exact below_drew1 HB8.out | exact pw_below_drewN HB8.out _));  clear hh; rintro e w9 hrow; obtain ⟨A9, c9, rfl, hc9, hC9, hb, hk, hl⟩ := row_out hrow; have HB9 := Aside0.mk hb; have y0_9 : w9.cell? ⟨gb, 0, none⟩ = some (.int .u8 x.f0) := (by first | exact hk _ _ y0_8 | exact hk _ _ (cell_drew1 y0_8)); have y1_9 : w9.cell? ⟨gb, 1, none⟩ = some (.int .u16 x.f1) := (by first | exact hk _ _ y1_8 | exact hk _ _ (cell_drew1 y1_8)); have y2_9 : w9.cell? ⟨gb, 2, none⟩ = some (.slice A x.f2.length c) := (by first | exact hk _ _ y2_8 | exact hk _ _ (cell_drew1 y2_8)); have HC9 := Aside0.mk hC9; clear hC9 hl; clear hb hk) | (go_at_call 22; have hh := fun W (hW : Below w.heap.size w W)  => row_rturned 30 x t A c W HS.out (Kd.C_below HC.out hW) hc HTR.out hW; with_reducible refine Calls.mono (hh _ ?hw ) ?_; (case hw => exact (by first | exact HB9.out | exact below_drew1 HB9.out | exact pw_below_drewN HB9.out _));  clear hh; rintro e w10 hrow; obtain ⟨A10, c10, rfl, hc10, hC10, hb, hk, hl⟩ := row_out hrow; have HB10 := Aside0.mk hb; have y0_10 : w10.cell? ⟨gb, 0, none⟩ = some (.int .u8 x.f0) := (by first | exact hk _ _ y0_9 | exact hk _ _ (cell_drew1 y0_9)); have y1_10 : w10.cell? ⟨gb, 1, none⟩ = some (.int .u16 x.f1) := (by first | exact hk _ _ y1_9 | exact hk _ _ (cell_drew1 y1_9)); have y2_10 : w10.cell? ⟨gb, 2, none⟩ = some (.slice A x.f2.length c) := (by first | exact hk _ _ y2_9 | exact hk _ _ (cell_drew1 y2_9)); have HC10 := Aside0.mk hC10; have HC9b := Aside0.mk (show Kd.C k25 w10 A9 t.f2.length t.f2 from hl _ _ _ (by first | exact HC9.out | exact Kd.C_drew HC9.out | exact Kd.C_drewN HC9.out _)); clear hC10 hl; clear hb hk) | (go_at_call 21; have hh := fun W (hW : Below w.heap.size w W) (hV : ∀ B n l, Kd.C k25 w10 B n l → Kd.C k25 W B n l) => keep_calls (rsame13 t t A9 A10 c9 c10 true W HST.out (hV _ _ _ HC9b.out) hc9 (hV _ _ _ HC10.out) hc10 (samN_refl 12 t)) hW; with_reducible refine Calls.mono (hh _ ?hw ?hV) ?_; (case hw => exact (by first | exact HB10.out | exact below_drew1 HB10.out | exact pw_below_drewN HB10.out _)); (case hV => first | exact fun _ _ _ h => h | exact fun _ _ _ h => Kd.C_drew h | exact fun _ _ _ h => Kd.C_drewN h _); clear hh; rintro e w11 ⟨rfl, hb, hk⟩; have HB11 := Aside0.mk hb; have y0_11 : w11.cell? ⟨gb, 0, none⟩ = some (.int .u8 x.f0) := (by first | exact hk _ _ y0_10 | exact hk _ _ (cell_drew1 y0_10)); have y1_11 : w11.cell? ⟨gb, 1, none⟩ = some (.int .u16 x.f1) := (by first | exact hk _ _ y1_10 | exact hk _ _ (cell_drew1 y1_10)); have y2_11 : w11.cell? ⟨gb, 2, none⟩ = some (.slice A x.f2.length c) := (by first | exact hk _ _ y2_10 | exact hk _ _ (cell_drew1 y2_10)); clear hb hk))
      all_goals
        go_wp2
        go_ret
        first | exact ⟨rfl, HB11.out⟩ | exact ⟨rfl, pw_below_drewN HB11.out _⟩
end Go.Proofs.Ytbhkjaiaglkgjaa

