/- What the calls of count and Right answer: 'cnt'. Condition: no node has more than 120 kids. -/
import Derived.Test.YtbhkjaiaglkgjaaTree
import Derived.OneCell
import Derived.Lib.Hide
namespace Go.Proofs.Ytbhkjaiaglkgjaa
open Go.RowKit Go.Proofs.YtbhkjaiaglkgjaaW.PrintWords Go.Proofs.YtbhkjaiaglkgjaaW.PrintLast Go.Proofs.YtbhkjaiaglkgjaaW.PrintMore
open PRegexTells

theorem cnt_false {d : Nat} {x : S25} {L : Int} (h : L - 1 < 0 ∨ d = 0) : cnt d x L = (false, L - 1) := by
  cases d with
  | zero => rfl
  | succ d =>
    unfold cnt
    rw [if_pos]
    rcases h with h | h
    · exact Or.inl h
    · omega
theorem below_set' {w0 w1 : World} {g : Nat} (h : Below w0.heap.size w0 w1) (hg : w0.heap.size ≤ g) (o : Nat) (u : Value) : Below w0.heap.size w0 (w1.setCell ⟨g, o, none⟩ u) := Below.setCell h hg u
theorem below_in {w0 w w1 : World} (h : Below w0.heap.size w0 w) (h1 : Below w.heap.size w w1) : Below w0.heap.size w0 w1 := below_step h h1
theorem set_one {w : World} {g : Nat} {v : Value} {t : TypeId} (h : w.heap[g]? = some (.cells #[v] t (0, 0))) (u : Value) : (w.setCell ⟨g, 0, none⟩ u).heap[g]? = some (.cells #[u] t (0, 0)) := blk_put h 0 u rfl

set_option maxHeartbeats 1600000 in
set_option maxRecDepth 100000 in
theorem count_stop (d : Nat) (x : S25) (A : Option Addr) (c : Nat) (L : Int) (g : Nat) (w0 w : World) (hb : Below w0.heap.size w0 w) (hg : w0.heap.size ≤ g) (hL : w.heap[g]? = some (.cells #[.int .i64 L] 3 (0, 0))) (h0 : 0 ≤ L) (h1 : L ≤ 100) (hz : L - 1 < 0 ∨ d = 0) :
    Calls Try.prog 26 #[.agg #[.int .u8 x.f0, .int .u16 x.f1, .slice A x.f2.length c], .int .i64 d, .pointer (some ⟨g, 0, none⟩)] w fun e w' => e = .returned (.bool (cnt d x L).1) ∧ w'.heap[g]? = some (.cells #[.int .i64 (cnt d x L).2] 3 (0, 0)) ∧ Below w0.heap.size w0 w' ∧ KB w w' g := by
  have hu25 := Try.underlying25
  rw [cnt_false hz]
  have HL := Aside0.mk hL
  have HB := Aside0.mk hb
  clear hL hb
  rcases hz with hz | rfl
  · have hd1 : decide (L - 1 < 0) = true := by simpa using hz
    clear hz
    go_enter Try.func26, Try.ntmps26
    go_wp2_with (first | (((with_reducible refine gate_dst (N := 3) rfl ?_); refine box_event ?hg (N := 3) ?hd (cs := #[.int .u8 x.f0, .int .u16 x.f1, .slice A x.f2.length c]) (t := 25) ?hr ?_; (case hd => rfl); (case hg => rfl); (case hr => first | (go_simp; done) | (go_simp; rfl)); intro gb hgb w1 hbox hb1); have HL1 := Aside0.mk (blk_below HL.out hb1); have cL := cell_of_one HL1.out; have fL := free_of_one HL1.out; have HGB := Aside0.mk hgb; have HNB := Aside0.mk (show gb ≠ g by rw [hgb]; exact Nat.ne_of_gt (blk_lt HL.out)); have HX := Aside0.mk hbox; have ng := HNB.out; have ng' := HNB.out.symm; have y0 : w1.cell? ⟨gb, 0, none⟩ = some (.int .u8 x.f0) := (blk_cell HX.out 0).trans rfl; have y1 : w1.cell? ⟨gb, 1, none⟩ = some (.int .u16 x.f1) := (blk_cell HX.out 1).trans rfl; have y2 : w1.cell? ⟨gb, 2, none⟩ = some (.slice A x.f2.length c) := (blk_cell HX.out 2).trans rfl; clear hgb hbox))
    go_ret
    exact ⟨rfl, set_one HL1.out _, below_set' (below_in HB.out (by assumption)) hg _ _, (KB.below (by assumption) g).set 0 _⟩
  · go_enter Try.func26, Try.ntmps26
    go_wp2_with (first | (((with_reducible refine gate_dst (N := 3) rfl ?_); refine box_event ?hg (N := 3) ?hd (cs := #[.int .u8 x.f0, .int .u16 x.f1, .slice A x.f2.length c]) (t := 25) ?hr ?_; (case hd => rfl); (case hg => rfl); (case hr => first | (go_simp; done) | (go_simp; rfl)); intro gb hgb w1 hbox hb1); have HL1 := Aside0.mk (blk_below HL.out hb1); have cL := cell_of_one HL1.out; have fL := free_of_one HL1.out; have HGB := Aside0.mk hgb; have HNB := Aside0.mk (show gb ≠ g by rw [hgb]; exact Nat.ne_of_gt (blk_lt HL.out)); have HX := Aside0.mk hbox; have ng := HNB.out; have ng' := HNB.out.symm; have y0 : w1.cell? ⟨gb, 0, none⟩ = some (.int .u8 x.f0) := (blk_cell HX.out 0).trans rfl; have y1 : w1.cell? ⟨gb, 1, none⟩ = some (.int .u16 x.f1) := (blk_cell HX.out 1).trans rfl; have y2 : w1.cell? ⟨gb, 2, none⟩ = some (.slice A x.f2.length c) := (blk_cell HX.out 2).trans rfl; clear hgb hbox))
    · go_ret
      exact ⟨rfl, set_one HL1.out _, below_set' (below_in HB.out (by assumption)) hg _ _, (KB.below (by assumption) g).set 0 _⟩
    · go_ret
      exact ⟨rfl, set_one HL1.out _, below_set' (below_in HB.out (by assumption)) hg _ _, (KB.below (by assumption) g).set 0 _⟩

theorem cell_below {w w1 : World} {a : Addr} {v : Value} (h : w.cell? a = some v) (hb : Below w.heap.size w w1) : w1.cell? a = some v := (hb.cell (World.block_lt_of_cell? w _ h)).trans h
theorem rd_drop (l : List S25) (k : Nat) (h : k < l.length) : l.drop k = rd_T25 l (k : Int) :: l.drop (k + 1) := by
  rw [List.drop_eq_getElem_cons h]
  congr 1
  unfold rd_T25
  rw [Int.toNat_natCast, List.getD_eq_getElem?_getD, List.getElem?_eq_getElem h]; rfl
theorem rd_mem (l : List S25) (k : Nat) (h : k < l.length) : rd_T25 l (k : Int) ∈ l := by
  unfold rd_T25
  rw [Int.toNat_natCast, List.getD_eq_getElem?_getD, List.getElem?_eq_getElem h]
  exact List.getElem_mem h
theorem kidsC_step {f : S25 → Int → Bool × Int} {l : List S25} {k : Nat} (h : k < l.length) {L L2 : Int} {b : Bool} (hc : f (rd_T25 l (k : Int)) L = (b, L2)) : kidsC f (l.drop k) L = if b = true then kidsC f (l.drop (k + 1)) L2 else (false, L2) := by
  rw [rd_drop l k h, kidsC, hc]
theorem kidsC_end {f : S25 → Int → Bool × Int} {l : List S25} {k : Nat} (h : k = l.length) {L : Int} : kidsC f (l.drop k) L = (true, L) := by
  rw [List.drop_eq_nil_of_le (by omega), kidsC]

set_option maxHeartbeats 3200000 in
set_option maxRecDepth 100000 in
theorem count_calls (d : Nat) : ∀ (n : Nat) (x : S25) (A : Option Addr) (c : Nat) (L : Int) (g : Nat) (w0 w : World), Sm n x → Kd.C k25 w0 A x.f2.length x.f2 → x.f2.length ≤ c → Below w0.heap.size w0 w → w0.heap.size ≤ g → w.heap[g]? = some (.cells #[.int .i64 L] 3 (0, 0)) → 0 ≤ L → L ≤ 100 → d ≤ 12 →
    Calls Try.prog 26 #[.agg #[.int .u8 x.f0, .int .u16 x.f1, .slice A x.f2.length c], .int .i64 d, .pointer (some ⟨g, 0, none⟩)] w fun e w' => e = .returned (.bool (cnt d x L).1) ∧ w'.heap[g]? = some (.cells #[.int .i64 (cnt d x L).2] 3 (0, 0)) ∧ Below w0.heap.size w0 w' ∧ KB w w' g := by
  induction d with
  | zero =>
    intro n x A c L g w0 w hS hC hc hb hg hL h0 h1 hd
    exact count_stop 0 x A c L g w0 w hb hg hL h0 h1 (Or.inr rfl)
  | succ d ih =>
    intro n x A c L g w0 w hS hC hc hb hg hL h0 h1 hd
    by_cases hz : L - 1 < 0
    · exact count_stop (d + 1) x A c L g w0 w hb hg hL h0 h1 (Or.inl hz)
    have hu25 := Try.underlying25
    have hd1 : decide (L - 1 < 0) = false := by simpa using hz
    have HL := Aside0.mk hL
    have HB := Aside0.mk hb
    have HC := Aside0.mk hC
    have HSF := Aside0.mk (shape_f x)
    have hdz : ((d : Int) + 1 == 0) = false := by simp; omega
    have hlen := hS.len
    clear hL hC
    cases hs : shp x with
    | false =>
      have HV := Aside0.mk (show cnt (d + 1) x L = (false, L - 1) by unfold cnt; rw [if_pos (Or.inr hs)])
      rw [hs] at HSF
      clear hs hb ih
      go_enter Try.func26, Try.ntmps26
      go_wp2_with (first | (((with_reducible refine gate_dst (N := 3) rfl ?_); refine box_event ?hg (N := 3) ?hd (cs := #[.int .u8 x.f0, .int .u16 x.f1, .slice A x.f2.length c]) (t := 25) ?hr ?_; (case hd => rfl); (case hg => rfl); (case hr => first | (go_simp; done) | (go_simp; rfl)); intro gb hgb w1 hbox hb1); have HL1 := Aside0.mk (blk_below HL.out hb1); have cL := cell_of_one HL1.out; have fL := free_of_one HL1.out; have HGB := Aside0.mk hgb; have HNB := Aside0.mk (show gb ≠ g by rw [hgb]; exact Nat.ne_of_gt (blk_lt HL.out)); have HX := Aside0.mk hbox; have ng := HNB.out; have ng' := HNB.out.symm; have y0 : w1.cell? ⟨gb, 0, none⟩ = some (.int .u8 x.f0) := (blk_cell HX.out 0).trans rfl; have y1 : w1.cell? ⟨gb, 1, none⟩ = some (.int .u16 x.f1) := (blk_cell HX.out 1).trans rfl; have y2 : w1.cell? ⟨gb, 2, none⟩ = some (.slice A x.f2.length c) := (blk_cell HX.out 2).trans rfl; clear hgb hbox) | (go_at_call 34; refine (regex_shape.calls 1 _ _ _ _ _ false _ (by exact Kd.C_below HC.out (below_set' (below_in HB.out hb1) hg _ _)) hc HSF.out).mono ?_; rintro e w2 ⟨rfl, hb2⟩))
      go_ret
      rw [HV.out]
      exact ⟨rfl, blk_below (set_one HL1.out _) (by assumption), below_in (below_set' (below_in HB.out (by assumption)) hg _ _) (by assumption), ((KB.below (by assumption) g).set 0 _).trans (KB.below (by assumption) g)⟩
    | true =>
      have HV := Aside0.mk (show cnt (d + 1) x L = kidsC (cnt d) x.f2 (L - 1) by unfold cnt; rw [if_neg (by rw [hs]; simp; omega)])
      rw [hs] at HSF
      have hb0 := hb.size
      have IHH := Aside0.mk ih
      clear hs hb ih
      go_enter Try.func26, Try.ntmps26
      go_wp2_with (first | (((with_reducible refine gate_dst (N := 3) rfl ?_); refine box_event ?hg (N := 3) ?hd (cs := #[.int .u8 x.f0, .int .u16 x.f1, .slice A x.f2.length c]) (t := 25) ?hr ?_; (case hd => rfl); (case hg => rfl); (case hr => first | (go_simp; done) | (go_simp; rfl)); intro gb hgb w1 hbox hb1); have HL1 := Aside0.mk (blk_below HL.out hb1); have cL := cell_of_one HL1.out; have fL := free_of_one HL1.out; have HGB := Aside0.mk hgb; have HNB := Aside0.mk (show gb ≠ g by rw [hgb]; exact Nat.ne_of_gt (blk_lt HL.out)); have HX := Aside0.mk hbox; have ng := HNB.out; have ng' := HNB.out.symm; have y0 : w1.cell? ⟨gb, 0, none⟩ = some (.int .u8 x.f0) := (blk_cell HX.out 0).trans rfl; have y1 : w1.cell? ⟨gb, 1, none⟩ = some (.int .u16 x.f1) := (blk_cell HX.out 1).trans rfl; have y2 : w1.cell? ⟨gb, 2, none⟩ = some (.slice A x.f2.length c) := (blk_cell HX.out 2).trans rfl; clear hgb hbox) | (go_at_call 34; refine (regex_shape.calls 1 _ _ _ _ _ true _ (by exact Kd.C_below HC.out (below_set' (below_in HB.out hb1) hg _ _)) hc HSF.out).mono ?_; rintro e w2 ⟨rfl, hb2⟩; have BX2 := blk_below (blk_far HX.out HNB.out (.int .i64 (L - 1))) hb2; have x0 : w2.cell? ⟨gb, 2, none⟩ = some (.slice A x.f2.length c) := (blk_cell BX2 2).trans rfl; have HL3 := Aside0.mk (blk_below (set_one HL1.out (.int .i64 (L - 1))) hb2); have HB3 := Aside0.mk (below_in (below_set' (below_in HB.out hb1) hg 0 (.int .i64 (L - 1))) hb2); have HK3 := Aside0.mk (((KB.below hb1 g).set 0 (.int .i64 (L - 1))).trans (KB.below hb2 g))))
      go_loopw [30] (fun i wr => ∃ (k : Nat) (M : Int), k ≤ x.f2.length ∧ i = .int .i64 k ∧ 0 ≤ M ∧ M ≤ 100 ∧ Aside0 (kidsC (cnt d) (x.f2.drop k) M = kidsC (cnt d) x.f2 (L - 1)) ∧ Aside0 (wr.heap[g]? = some (.cells #[.int .i64 M] 3 (0, 0))) ∧ Aside0 (Below w0.heap.size w0 wr) ∧ Aside0 (KB w wr g)) (fun i _ => x.f2.length - (intOf i).toNat)
      case atStart => exact ⟨0, L - 1, Nat.zero_le _, rfl, by omega, by omega, ⟨rfl⟩, by assumption, by assumption, by assumption⟩
      case round =>
        obtain ⟨k, M, hk, rfl, hM0, hM1, HKC, HLr, HBr, HKr⟩ := hrel
        by_cases hlt : k < x.f2.length
        · obtain ⟨ad, A2, c2, rfl, hx0, hx1, hx2, hl2, hC2⟩ := at_T25 HC.out (k : Int) (by omega) (by omega)
          rw [Int.toNat_natCast] at hx0 hx1 hx2
          replace hx0 := (HBr.out.cell (World.block_lt_of_cell? w0 _ hx0)).trans hx0
          replace hx1 := (HBr.out.cell (World.block_lt_of_cell? w0 _ hx1)).trans hx1
          replace hx2 := (HBr.out.cell (World.block_lt_of_cell? w0 _ hx2)).trans hx2
          obtain ⟨y, hy⟩ : ∃ y, rd_T25 x.f2 (k : Int) = y := ⟨_, rfl⟩
          rw [hy] at hx0 hx1 hx2 hl2 hC2
          obtain ⟨b, L2, hcn⟩ : ∃ b L2, cnt d y M = (b, L2) := ⟨_, _, rfl⟩
          have hL2 := cnt_left d y M hM0
          rw [hcn] at hL2
          have HST := Aside0.mk (HKC.out.symm.trans (kidsC_step hlt (hy ▸ hcn)))
          have HY := Aside0.mk (hS.kid (hy ▸ rd_mem x.f2 k hlt))
          have HC2 := Aside0.mk hC2
          have IH : Aside0 (∀ w', Below w0.heap.size w0 w' → w'.heap[g]? = some (.cells #[.int .i64 M] 3 (0, 0)) → Calls Try.prog 26 #[.agg #[.int .u8 y.f0, .int .u16 y.f1, .slice A2 y.f2.length c2], .int .i64 d, .pointer (some ⟨g, 0, none⟩)] w' fun e w'' => e = .returned (.bool b) ∧ w''.heap[g]? = some (.cells #[.int .i64 L2] 3 (0, 0)) ∧ Below w0.heap.size w0 w'' ∧ KB w' w'' g) := ⟨fun w' hb' hL' => by
            have := IHH.out (n - 1) y A2 c2 M g w0 w' HY.out HC2.out hl2 hb' hg hL' hM0 hM1 (by omega)
            rw [hcn] at this
            exact this⟩
          clear hy hC2 hcn
          have e0 : (d : Int) + 1 - 1 = (d : Int) := by omega
          cases b with
          | false =>
            go_wp2_with (first | (((with_reducible refine gate_dst (N := 8) rfl ?_); refine box_event ?hg (N := 8) ?hd (cs := #[.int .u8 0, .int .u16 0, .slice none 0 0]) (t := 25) ?hr ?_; (case hd => rfl); (case hg => rfl); (case hr => first | (go_simp; done) | (go_simp; rfl)); intro gk hgk w2 hbox2 hb2); have HG := Aside0.mk (show w0.heap.size ≤ gk by rw [hgk]; exact HBr.out.size); have HK2 := Aside0.mk ((HKr.out).trans (KB.below hb2 g)); have HL2 := Aside0.mk (blk_below HLr.out hb2); have HB2 := Aside0.mk (below_in HBr.out hb2); have HGN := Aside0.mk (show g ≠ gk by rw [hgk]; exact Nat.ne_of_lt (blk_lt HLr.out)); have HGK := Aside0.mk (show w.heap.size ≤ gk by rw [hgk]; exact HKr.out.size); have HB0 := Aside0.mk hbox2; have z0 : w2.cell? ⟨gk, 0, none⟩ = some (.int .u8 0) := (blk_cell HB0.out 0).trans rfl; have z1 : w2.cell? ⟨gk, 1, none⟩ = some (.int .u16 0) := (blk_cell HB0.out 1).trans rfl; have z2 : w2.cell? ⟨gk, 2, none⟩ = some (.slice none 0 0) := (blk_cell HB0.out 2).trans rfl; have f0 := blk_frozen HB0.out 0; have f1 := blk_frozen HB0.out 1; have f2 := blk_frozen HB0.out 2; replace hx0 := cell_below hx0 hb2; replace hx1 := cell_below hx1 hb2; replace hx2 := cell_below hx2 hb2; clear hbox2; have HGKE := Aside0.mk hgk; clear hgk; have ngk := HGN.out; have ngk' := HGN.out.symm) | (go_at_call 26; refine (IH.out _ (by exact (((below_set' HB2.out HG.out _ _) |> fun h => below_set' h HG.out _ _) |> fun h => below_set' h HG.out _ _)) (by exact blk_far (blk_far (blk_far HL2.out HGN.out _) HGN.out _) HGN.out _)).mono ?_; rintro e w3 ⟨rfl, hL3, hB3, hK3⟩))
            go_ret
            rw [HV.out, HST.out, if_neg (by simp)]
            exact ⟨rfl, hL3, hB3, (((HK2.out.far HGK.out _).far HGK.out _).far HGK.out _).trans hK3⟩
          | true =>
            go_wp2_with (first | (((with_reducible refine gate_dst (N := 8) rfl ?_); refine box_event ?hg (N := 8) ?hd (cs := #[.int .u8 0, .int .u16 0, .slice none 0 0]) (t := 25) ?hr ?_; (case hd => rfl); (case hg => rfl); (case hr => first | (go_simp; done) | (go_simp; rfl)); intro gk hgk w2 hbox2 hb2); have HG := Aside0.mk (show w0.heap.size ≤ gk by rw [hgk]; exact HBr.out.size); have HK2 := Aside0.mk ((HKr.out).trans (KB.below hb2 g)); have HL2 := Aside0.mk (blk_below HLr.out hb2); have HB2 := Aside0.mk (below_in HBr.out hb2); have HGN := Aside0.mk (show g ≠ gk by rw [hgk]; exact Nat.ne_of_lt (blk_lt HLr.out)); have HGK := Aside0.mk (show w.heap.size ≤ gk by rw [hgk]; exact HKr.out.size); have HB0 := Aside0.mk hbox2; have z0 : w2.cell? ⟨gk, 0, none⟩ = some (.int .u8 0) := (blk_cell HB0.out 0).trans rfl; have z1 : w2.cell? ⟨gk, 1, none⟩ = some (.int .u16 0) := (blk_cell HB0.out 1).trans rfl; have z2 : w2.cell? ⟨gk, 2, none⟩ = some (.slice none 0 0) := (blk_cell HB0.out 2).trans rfl; have f0 := blk_frozen HB0.out 0; have f1 := blk_frozen HB0.out 1; have f2 := blk_frozen HB0.out 2; replace hx0 := cell_below hx0 hb2; replace hx1 := cell_below hx1 hb2; replace hx2 := cell_below hx2 hb2; clear hbox2; have HGKE := Aside0.mk hgk; clear hgk; have ngk := HGN.out; have ngk' := HGN.out.symm) | (go_at_call 26; refine (IH.out _ (by exact (((below_set' HB2.out HG.out _ _) |> fun h => below_set' h HG.out _ _) |> fun h => below_set' h HG.out _ _)) (by exact blk_far (blk_far (blk_far HL2.out HGN.out _) HGN.out _) HGN.out _)).mono ?_; rintro e w3 ⟨rfl, hL3, hB3, hK3⟩))
            go_roundw
            case rel => exact ⟨k + 1, L2, by omega, by go_num, by first | exact hL2.2 | exact hL2.2 rfl | simpa using hL2.2, by omega, ⟨by have := HST.out; rw [if_pos (by trivial)] at this; exact this.symm⟩, ⟨hL3⟩, ⟨hB3⟩, ⟨(((HK2.out.far HGK.out _).far HGK.out _).far HGK.out _).trans hK3⟩⟩
            case measure => simp [intOf]; omega
        · obtain rfl : k = x.f2.length := by omega
          have HE := Aside0.mk (HKC.out.symm.trans (kidsC_end rfl))
          go_wp2
          go_ret
          rw [HV.out, HE.out]
          exact ⟨rfl, HLr.out, HBr.out, HKr.out⟩

theorem cnt_two (d : Nat) (x : S25) (L : Int) : cnt d x L = ((cnt d x L).1, (cnt d x L).2) := rfl
set_option maxHeartbeats 1600000 in
set_option maxRecDepth 100000 in
theorem right_calls (n : Nat) (x : S25) (A : Option Addr) (c : Nat) (r : Bool) (w : World) (hS : Sm n x) (hC : Kd.C k25 w A x.f2.length x.f2) (hc : x.f2.length ≤ c) (hr : (cnt 12 x 100).1 = r) :
    Calls Try.prog 13 #[.agg #[.int .u8 x.f0, .int .u16 x.f1, .slice A x.f2.length c]] w fun e w' => e = .returned (.bool r) ∧ Below w.heap.size w w' := by
  have hu25 := Try.underlying25
  have HC := Aside0.mk hC
  have HR := Aside0.mk hr
  clear hC hr
  go_enter Try.func13, Try.ntmps13
  go_wp2_with (first | (((with_reducible refine gate_dst (N := 1) rfl ?_); refine box_event ?hg (N := 1) ?hd (cs := #[.int .u8 x.f0, .int .u16 x.f1, .slice A x.f2.length c]) (t := 25) ?hr ?_; (case hd => rfl); (case hg => rfl); (case hr => first | (go_simp; done) | (go_simp; rfl)); intro gb hgb w1 hbox hb1); have HX := Aside0.mk hbox; have HGB := Aside0.mk hgb; have y0 : w1.cell? ⟨gb, 0, none⟩ = some (.int .u8 x.f0) := (blk_cell HX.out 0).trans rfl; have y1 : w1.cell? ⟨gb, 1, none⟩ = some (.int .u16 x.f1) := (blk_cell HX.out 1).trans rfl; have y2 : w1.cell? ⟨gb, 2, none⟩ = some (.slice A x.f2.length c) := (blk_cell HX.out 2).trans rfl; clear hgb hbox) | (((with_reducible refine gate_dst (N := 3) rfl ?_); refine box_event ?hg (N := 3) ?hd (cs := #[.int .i64 0]) (t := 3) ?hr ?_; (case hd => rfl); (case hg => rfl); (case hr => first | (go_simp; done) | (go_simp; rfl)); intro gl hgl w2 hbox2 hb2); have HX2 := Aside0.mk hbox2; have HN := Aside0.mk (show gb ≠ gl by rw [hgl]; exact Nat.ne_of_lt (blk_lt HX.out)); have HG := Aside0.mk (show w.heap.size ≤ gl by rw [hgl]; exact hb1.size); have hn := HN.out; have hn' := HN.out.symm; have HXX := Aside0.mk (blk_below HX.out hb2); have yl : w2.cell? ⟨gl, 0, none⟩ = some (.int .i64 0) := (blk_cell HX2.out 0).trans rfl; have yf := blk_frozen HX2.out 0; replace y0 := cell_below y0 hb2; replace y1 := cell_below y1 hb2; replace y2 := cell_below y2 hb2; have HB2 := Aside0.mk (below_in hb1 hb2); clear hgl hbox2 hb2) | (go_at_call 26; refine (count_calls 12 n x A c 100 gl w _ hS HC.out hc (by exact below_set' HB2.out HG.out _ _) HG.out (by exact set_one HX2.out _) (by decide) (by decide) (by decide)).mono ?_; rintro e w3 ⟨rfl, hL3, hB3, hK3⟩))
  go_ret
  exact ⟨by rw [HR.out]; rfl, hB3⟩
end Go.Proofs.Ytbhkjaiaglkgjaa

