/- What the calls of walk, Nodes and Deep answer. Condition: no node has more than 120 kids, and the tree is at most 90 deep. -/
import Derived.Test.YtbhkjaiaglkgjaaCount
namespace Go.Proofs.Ytbhkjaiaglkgjaa
open Go.RowKit Go.Proofs.YtbhkjaiaglkgjaaW.PrintWords Go.Proofs.YtbhkjaiaglkgjaaW.PrintLast Go.Proofs.YtbhkjaiaglkgjaaW.PrintMore
open PRegexTells
attribute [local go_sem] max2_int max_two

/-- All nodes are gone through, each ahead of its kids; what is seen is the number and how deep the node is. -/
def wlk (see : Int → Int → Int) : Nat → S25 → Int → Int → Int
  | 0, _, _, s => s
  | m + 1, x, deep, s => x.f2.foldl (fun s k => wlk see m k (deep + 1) s) (see s deep)
def see28 (s _d : Int) : Int := wrap64 (s + 1)
def see29 (s d : Int) : Int := if s < d then d else s
theorem foldl_drop {see : Int → Int → Int} {m : Nat} {deep : Int} {l : List S25} {k : Nat} (h : k < l.length) (s : Int) :
    (l.drop k).foldl (fun s k => wlk see m k deep s) s = (l.drop (k + 1)).foldl (fun s k => wlk see m k deep s) (wlk see m (rd_T25 l (k : Int)) deep s) := by
  rw [rd_drop l k h, List.foldl_cons]

set_option maxRecDepth 100000 in
theorem see28_calls (x : S25) (A : Option Addr) (c : Nat) (deep s : Int) (g : Nat) (w0 w : World) (hb : Below w0.heap.size w0 w) (hg : w0.heap.size ≤ g) (hL : w.heap[g]? = some (.cells #[.int .i64 s] 3 (0, 0))) :
    Calls Try.prog 28 #[.agg #[.int .u8 x.f0, .int .u16 x.f1, .slice A x.f2.length c], .int .i64 deep, .pointer (some ⟨g, 0, none⟩)] w fun e w' => e = .returned (.tuple #[]) ∧ w'.heap[g]? = some (.cells #[.int .i64 (see28 s deep)] 3 (0, 0)) ∧ Below w0.heap.size w0 w' ∧ KB w w' g := by
  have HL := Aside0.mk hL
  have HB := Aside0.mk hb
  clear hL hb
  go_enter Try.func28, Try.ntmps28
  go_wp2_with (first | (((with_reducible refine gate_dst (N := 3) rfl ?_); refine box_event ?hg (N := 3) ?hd (cs := #[.int .u8 x.f0, .int .u16 x.f1, .slice A x.f2.length c]) (t := 25) ?hr ?_; (case hd => rfl); (case hg => rfl); (case hr => first | (go_simp; done) | (go_simp; rfl)); intro gb hgb w1 hbox hb1); have HL1 := Aside0.mk (blk_below HL.out hb1); have cL := cell_of_one HL1.out; have fL := free_of_one HL1.out; clear hgb hbox))
  go_end0
  exact ⟨rfl, set_one HL1.out _, below_set' (below_in HB.out (by assumption)) hg _ _, (KB.below (by assumption) g).set 0 _⟩

set_option maxHeartbeats 3200000 in
set_option maxRecDepth 100000 in
theorem walk28_calls (n : Nat) : ∀ (x : S25) (A : Option Addr) (c : Nat) (deep s : Int) (g : Nat) (w0 w : World), Sm n x → Kd.C k25 w0 A x.f2.length x.f2 → x.f2.length ≤ c → Below w0.heap.size w0 w → w0.heap.size ≤ g → w.heap[g]? = some (.cells #[.int .i64 s] 3 (0, 0)) → 0 ≤ deep → deep + n ≤ 100 →
    Calls Try.prog 27 #[.agg #[.int .u8 x.f0, .int .u16 x.f1, .slice A x.f2.length c], .int .i64 deep, .func (.func 28) #[] #[.pointer (some ⟨g, 0, none⟩)]] w fun e w' => e = .returned (.tuple #[]) ∧ w'.heap[g]? = some (.cells #[.int .i64 (wlk see28 n x deep s)] 3 (0, 0)) ∧ Below w0.heap.size w0 w' ∧ KB w w' g := by
  induction n with
  | zero => intro x A c deep s g w0 w hS; exact hS.elim
  | succ n ih =>
    intro x A c deep s g w0 w hS hC hc hb hg hL h0 h1
    have hu25 := Try.underlying25
    have HL := Aside0.mk hL
    have HB := Aside0.mk hb
    have HC := Aside0.mk hC
    have hlen := hS.len
    have HV := Aside0.mk (show wlk see28 (n + 1) x deep s = x.f2.foldl (fun s k => wlk see28 n k (deep + 1) s) (see28 s deep) from rfl)
    have IHH := Aside0.mk ih
    clear hL hC hb ih
    go_enter Try.func27, Try.ntmps27
    go_wp2_with (first | (((with_reducible refine gate_dst (N := 3) rfl ?_); refine box_event ?hg (N := 3) ?hd (cs := #[.int .u8 x.f0, .int .u16 x.f1, .slice A x.f2.length c]) (t := 25) ?hr ?_; (case hd => rfl); (case hg => rfl); (case hr => first | (go_simp; done) | (go_simp; rfl)); intro gb hgb w1 hbox hb1); have HL1 := Aside0.mk (blk_below HL.out hb1); have HNB := Aside0.mk (show gb ≠ g by rw [hgb]; exact Nat.ne_of_gt (blk_lt HL.out)); have HGB := Aside0.mk hgb; have HX := Aside0.mk hbox; have y0 : w1.cell? ⟨gb, 0, none⟩ = some (.int .u8 x.f0) := (blk_cell HX.out 0).trans rfl; have y1 : w1.cell? ⟨gb, 1, none⟩ = some (.int .u16 x.f1) := (blk_cell HX.out 1).trans rfl; have y2 : w1.cell? ⟨gb, 2, none⟩ = some (.slice A x.f2.length c) := (blk_cell HX.out 2).trans rfl; clear hgb hbox) | (go_at_call 28; refine (see28_calls x A c deep s g w0 _ (by exact below_in HB.out hb1) hg (by exact HL1.out)).mono ?_; rintro e w2 ⟨rfl, hL2, hB2, hK2⟩; have HLa := Aside0.mk hL2; have HBa := Aside0.mk hB2; have HKa := Aside0.mk ((KB.below hb1 g).trans hK2); have x0 : w2.cell? ⟨gb, 2, none⟩ = some (.slice A x.f2.length c) := (blk_cell (KB.keep hK2 HX.out HNB.out) 2).trans rfl; clear hL2 hB2 hK2))
    go_loopw [15] (fun i wr => ∃ (k : Nat) (M : Int), k ≤ x.f2.length ∧ i = .int .i64 k ∧ Aside0 ((x.f2.drop k).foldl (fun s k => wlk see28 n k (deep + 1) s) M = wlk see28 (n + 1) x deep s) ∧ Aside0 (wr.heap[g]? = some (.cells #[.int .i64 M] 3 (0, 0))) ∧ Aside0 (Below w0.heap.size w0 wr) ∧ Aside0 (KB w wr g)) (fun i _ => x.f2.length - (intOf i).toNat)
    case atStart => exact ⟨0, see28 s deep, Nat.zero_le _, rfl, ⟨HV.out.symm⟩, by assumption, by assumption, by assumption⟩
    case round =>
      obtain ⟨k, M, hk, rfl, HKC, HLr, HBr, HKr⟩ := hrel
      by_cases hlt : k < x.f2.length
      · obtain ⟨ad, A2, c2, rfl, hx0, hx1, hx2, hl2, hC2⟩ := at_T25 HC.out (k : Int) (by omega) (by omega)
        rw [Int.toNat_natCast] at hx0 hx1 hx2
        replace hx0 := (HBr.out.cell (World.block_lt_of_cell? w0 _ hx0)).trans hx0
        replace hx1 := (HBr.out.cell (World.block_lt_of_cell? w0 _ hx1)).trans hx1
        replace hx2 := (HBr.out.cell (World.block_lt_of_cell? w0 _ hx2)).trans hx2
        have HST := Aside0.mk (HKC.out.symm.trans (foldl_drop hlt M))
        obtain ⟨y, hy⟩ : ∃ y, rd_T25 x.f2 (k : Int) = y := ⟨_, rfl⟩
        rw [hy] at hx0 hx1 hx2 hl2 hC2 HST
        have HY := Aside0.mk (hS.2 y (hy ▸ rd_mem x.f2 k hlt))
        have HC2 := Aside0.mk hC2
        clear hy hC2
        go_wp2_with (first | (((with_reducible refine gate_dst (N := 7) rfl ?_); refine box_event ?hg (N := 7) ?hd (cs := #[.int .u8 0, .int .u16 0, .slice none 0 0]) (t := 25) ?hr ?_; (case hd => rfl); (case hg => rfl); (case hr => first | (go_simp; done) | (go_simp; rfl)); intro gk hgk w2 hbox2 hb2); have HG := Aside0.mk (show w0.heap.size ≤ gk by rw [hgk]; exact HBr.out.size); have HK2 := Aside0.mk ((HKr.out).trans (KB.below hb2 g)); have HL2 := Aside0.mk (blk_below HLr.out hb2); have HB2 := Aside0.mk (below_in HBr.out hb2); have HGN := Aside0.mk (show g ≠ gk by rw [hgk]; exact Nat.ne_of_lt (blk_lt HLr.out)); have HGK := Aside0.mk (show w.heap.size ≤ gk by rw [hgk]; exact HKr.out.size); have HB0 := Aside0.mk hbox2; have z0 : w2.cell? ⟨gk, 0, none⟩ = some (.int .u8 0) := (blk_cell HB0.out 0).trans rfl; have z1 : w2.cell? ⟨gk, 1, none⟩ = some (.int .u16 0) := (blk_cell HB0.out 1).trans rfl; have z2 : w2.cell? ⟨gk, 2, none⟩ = some (.slice none 0 0) := (blk_cell HB0.out 2).trans rfl; have f0 := blk_frozen HB0.out 0; have f1 := blk_frozen HB0.out 1; have f2 := blk_frozen HB0.out 2; replace hx0 := cell_below hx0 hb2; replace hx1 := cell_below hx1 hb2; replace hx2 := cell_below hx2 hb2; clear hbox2; have HGKE := Aside0.mk hgk; clear hgk; have ngk := HGN.out; have ngk2 := HGN.out.symm) | (go_at_call 27; refine (IHH.out y A2 c2 (deep + 1) M g w0 _ HY.out HC2.out hl2 (by exact below_set' (below_set' (below_set' HB2.out HG.out _ _) HG.out _ _) HG.out _ _) hg (by exact blk_far (blk_far (blk_far HL2.out HGN.out _) HGN.out _) HGN.out _) (by omega) (by omega)).mono ?_; rintro e w3 ⟨rfl, hL3, hB3, hK3⟩))
        go_roundw
        case rel => exact ⟨k + 1, _, by omega, by go_num, ⟨HST.out.symm⟩, ⟨hL3⟩, ⟨hB3⟩, ⟨(((HK2.out.far HGK.out _).far HGK.out _).far HGK.out _).trans hK3⟩⟩
        case measure => simp [intOf]; omega
      · obtain rfl : k = x.f2.length := by omega
        have HE := Aside0.mk (show M = wlk see28 (n + 1) x deep s by have := HKC.out; rw [List.drop_eq_nil_of_le (Nat.le_refl _)] at this; exact this)
        go_wp2
        go_end0
        rw [← HE.out]
        exact ⟨rfl, HLr.out, HBr.out, HKr.out⟩

set_option maxRecDepth 100000 in
theorem see29_calls (x : S25) (A : Option Addr) (c : Nat) (deep s : Int) (g : Nat) (w0 w : World) (hb : Below w0.heap.size w0 w) (hg : w0.heap.size ≤ g) (hL : w.heap[g]? = some (.cells #[.int .i64 s] 3 (0, 0))) :
    Calls Try.prog 29 #[.agg #[.int .u8 x.f0, .int .u16 x.f1, .slice A x.f2.length c], .int .i64 deep, .pointer (some ⟨g, 0, none⟩)] w fun e w' => e = .returned (.tuple #[]) ∧ w'.heap[g]? = some (.cells #[.int .i64 (see29 s deep)] 3 (0, 0)) ∧ Below w0.heap.size w0 w' ∧ KB w w' g := by
  have HL := Aside0.mk hL
  have HB := Aside0.mk hb
  clear hL hb
  by_cases hlt : s < deep
  · rw [show see29 s deep = deep from if_pos hlt]
    go_enter Try.func29, Try.ntmps29
    go_wp2_with (first | (((with_reducible refine gate_dst (N := 3) rfl ?_); refine box_event ?hg (N := 3) ?hd (cs := #[.int .u8 x.f0, .int .u16 x.f1, .slice A x.f2.length c]) (t := 25) ?hr ?_; (case hd => rfl); (case hg => rfl); (case hr => first | (go_simp; done) | (go_simp; rfl)); intro gb hgb w1 hbox hb1); have HL1 := Aside0.mk (blk_below HL.out hb1); have cL := cell_of_one HL1.out; have fL := free_of_one HL1.out; clear hgb hbox))
    go_end0
    exact ⟨rfl, set_one HL1.out _, below_set' (below_in HB.out (by assumption)) hg _ _, (KB.below (by assumption) g).set 0 _⟩
  · rw [show see29 s deep = s from if_neg hlt]
    go_enter Try.func29, Try.ntmps29
    go_wp2_with (first | (((with_reducible refine gate_dst (N := 3) rfl ?_); refine box_event ?hg (N := 3) ?hd (cs := #[.int .u8 x.f0, .int .u16 x.f1, .slice A x.f2.length c]) (t := 25) ?hr ?_; (case hd => rfl); (case hg => rfl); (case hr => first | (go_simp; done) | (go_simp; rfl)); intro gb hgb w1 hbox hb1); have HL1 := Aside0.mk (blk_below HL.out hb1); have cL := cell_of_one HL1.out; have fL := free_of_one HL1.out; clear hgb hbox))
    go_end0
    exact ⟨rfl, set_one HL1.out _, below_set' (below_in HB.out (by assumption)) hg _ _, (KB.below (by assumption) g).set 0 _⟩

set_option maxHeartbeats 3200000 in
set_option maxRecDepth 100000 in
theorem walk29_calls (n : Nat) : ∀ (x : S25) (A : Option Addr) (c : Nat) (deep s : Int) (g : Nat) (w0 w : World), Sm n x → Kd.C k25 w0 A x.f2.length x.f2 → x.f2.length ≤ c → Below w0.heap.size w0 w → w0.heap.size ≤ g → w.heap[g]? = some (.cells #[.int .i64 s] 3 (0, 0)) → 0 ≤ deep → deep + n ≤ 100 →
    Calls Try.prog 27 #[.agg #[.int .u8 x.f0, .int .u16 x.f1, .slice A x.f2.length c], .int .i64 deep, .func (.func 29) #[] #[.pointer (some ⟨g, 0, none⟩)]] w fun e w' => e = .returned (.tuple #[]) ∧ w'.heap[g]? = some (.cells #[.int .i64 (wlk see29 n x deep s)] 3 (0, 0)) ∧ Below w0.heap.size w0 w' ∧ KB w w' g := by
  induction n with
  | zero => intro x A c deep s g w0 w hS; exact hS.elim
  | succ n ih =>
    intro x A c deep s g w0 w hS hC hc hb hg hL h0 h1
    have hu25 := Try.underlying25
    have HL := Aside0.mk hL
    have HB := Aside0.mk hb
    have HC := Aside0.mk hC
    have hlen := hS.len
    have HV := Aside0.mk (show wlk see29 (n + 1) x deep s = x.f2.foldl (fun s k => wlk see29 n k (deep + 1) s) (see29 s deep) from rfl)
    have IHH := Aside0.mk ih
    clear hL hC hb ih
    go_enter Try.func27, Try.ntmps27
    go_wp2_with (first | (((with_reducible refine gate_dst (N := 3) rfl ?_); refine box_event ?hg (N := 3) ?hd (cs := #[.int .u8 x.f0, .int .u16 x.f1, .slice A x.f2.length c]) (t := 25) ?hr ?_; (case hd => rfl); (case hg => rfl); (case hr => first | (go_simp; done) | (go_simp; rfl)); intro gb hgb w1 hbox hb1); have HL1 := Aside0.mk (blk_below HL.out hb1); have HNB := Aside0.mk (show gb ≠ g by rw [hgb]; exact Nat.ne_of_gt (blk_lt HL.out)); have HGB := Aside0.mk hgb; have HX := Aside0.mk hbox; have y0 : w1.cell? ⟨gb, 0, none⟩ = some (.int .u8 x.f0) := (blk_cell HX.out 0).trans rfl; have y1 : w1.cell? ⟨gb, 1, none⟩ = some (.int .u16 x.f1) := (blk_cell HX.out 1).trans rfl; have y2 : w1.cell? ⟨gb, 2, none⟩ = some (.slice A x.f2.length c) := (blk_cell HX.out 2).trans rfl; clear hgb hbox) | (go_at_call 29; refine (see29_calls x A c deep s g w0 _ (by exact below_in HB.out hb1) hg (by exact HL1.out)).mono ?_; rintro e w2 ⟨rfl, hL2, hB2, hK2⟩; have HLa := Aside0.mk hL2; have HBa := Aside0.mk hB2; have HKa := Aside0.mk ((KB.below hb1 g).trans hK2); have x0 : w2.cell? ⟨gb, 2, none⟩ = some (.slice A x.f2.length c) := (blk_cell (KB.keep hK2 HX.out HNB.out) 2).trans rfl; clear hL2 hB2 hK2))
    go_loopw [15] (fun i wr => ∃ (k : Nat) (M : Int), k ≤ x.f2.length ∧ i = .int .i64 k ∧ Aside0 ((x.f2.drop k).foldl (fun s k => wlk see29 n k (deep + 1) s) M = wlk see29 (n + 1) x deep s) ∧ Aside0 (wr.heap[g]? = some (.cells #[.int .i64 M] 3 (0, 0))) ∧ Aside0 (Below w0.heap.size w0 wr) ∧ Aside0 (KB w wr g)) (fun i _ => x.f2.length - (intOf i).toNat)
    case atStart => exact ⟨0, see29 s deep, Nat.zero_le _, rfl, ⟨HV.out.symm⟩, by assumption, by assumption, by assumption⟩
    case round =>
      obtain ⟨k, M, hk, rfl, HKC, HLr, HBr, HKr⟩ := hrel
      by_cases hlt : k < x.f2.length
      · obtain ⟨ad, A2, c2, rfl, hx0, hx1, hx2, hl2, hC2⟩ := at_T25 HC.out (k : Int) (by omega) (by omega)
        rw [Int.toNat_natCast] at hx0 hx1 hx2
        replace hx0 := (HBr.out.cell (World.block_lt_of_cell? w0 _ hx0)).trans hx0
        replace hx1 := (HBr.out.cell (World.block_lt_of_cell? w0 _ hx1)).trans hx1
        replace hx2 := (HBr.out.cell (World.block_lt_of_cell? w0 _ hx2)).trans hx2
        have HST := Aside0.mk (HKC.out.symm.trans (foldl_drop hlt M))
        obtain ⟨y, hy⟩ : ∃ y, rd_T25 x.f2 (k : Int) = y := ⟨_, rfl⟩
        rw [hy] at hx0 hx1 hx2 hl2 hC2 HST
        have HY := Aside0.mk (hS.2 y (hy ▸ rd_mem x.f2 k hlt))
        have HC2 := Aside0.mk hC2
        clear hy hC2
        go_wp2_with (first | (((with_reducible refine gate_dst (N := 7) rfl ?_); refine box_event ?hg (N := 7) ?hd (cs := #[.int .u8 0, .int .u16 0, .slice none 0 0]) (t := 25) ?hr ?_; (case hd => rfl); (case hg => rfl); (case hr => first | (go_simp; done) | (go_simp; rfl)); intro gk hgk w2 hbox2 hb2); have HG := Aside0.mk (show w0.heap.size ≤ gk by rw [hgk]; exact HBr.out.size); have HK2 := Aside0.mk ((HKr.out).trans (KB.below hb2 g)); have HL2 := Aside0.mk (blk_below HLr.out hb2); have HB2 := Aside0.mk (below_in HBr.out hb2); have HGN := Aside0.mk (show g ≠ gk by rw [hgk]; exact Nat.ne_of_lt (blk_lt HLr.out)); have HGK := Aside0.mk (show w.heap.size ≤ gk by rw [hgk]; exact HKr.out.size); have HB0 := Aside0.mk hbox2; have z0 : w2.cell? ⟨gk, 0, none⟩ = some (.int .u8 0) := (blk_cell HB0.out 0).trans rfl; have z1 : w2.cell? ⟨gk, 1, none⟩ = some (.int .u16 0) := (blk_cell HB0.out 1).trans rfl; have z2 : w2.cell? ⟨gk, 2, none⟩ = some (.slice none 0 0) := (blk_cell HB0.out 2).trans rfl; have f0 := blk_frozen HB0.out 0; have f1 := blk_frozen HB0.out 1; have f2 := blk_frozen HB0.out 2; replace hx0 := cell_below hx0 hb2; replace hx1 := cell_below hx1 hb2; replace hx2 := cell_below hx2 hb2; clear hbox2; have HGKE := Aside0.mk hgk; clear hgk; have ngk := HGN.out; have ngk2 := HGN.out.symm) | (go_at_call 27; refine (IHH.out y A2 c2 (deep + 1) M g w0 _ HY.out HC2.out hl2 (by exact below_set' (below_set' (below_set' HB2.out HG.out _ _) HG.out _ _) HG.out _ _) hg (by exact blk_far (blk_far (blk_far HL2.out HGN.out _) HGN.out _) HGN.out _) (by omega) (by omega)).mono ?_; rintro e w3 ⟨rfl, hL3, hB3, hK3⟩))
        go_roundw
        case rel => exact ⟨k + 1, _, by omega, by go_num, ⟨HST.out.symm⟩, ⟨hL3⟩, ⟨hB3⟩, ⟨(((HK2.out.far HGK.out _).far HGK.out _).far HGK.out _).trans hK3⟩⟩
        case measure => simp [intOf]; omega
      · obtain rfl : k = x.f2.length := by omega
        have HE := Aside0.mk (show M = wlk see29 (n + 1) x deep s by have := HKC.out; rw [List.drop_eq_nil_of_le (Nat.le_refl _)] at this; exact this)
        go_wp2
        go_end0
        rw [← HE.out]
        exact ⟨rfl, HLr.out, HBr.out, HKr.out⟩

set_option maxHeartbeats 1600000 in
set_option maxRecDepth 100000 in
theorem nodes_calls (n : Nat) (x : S25) (A : Option Addr) (c : Nat) (r : Bool) (v : Int) (w : World) (hn : n ≤ 90) (hS : Sm n x) (hC : Kd.C k25 w A x.f2.length x.f2) (hc : x.f2.length ≤ c) (hr : (cnt 12 x 100).1 = r) (hv : (if r = true then wlk see28 n x 1 0 else 0) = v) :
    Calls Try.prog 14 #[.agg #[.int .u8 x.f0, .int .u16 x.f1, .slice A x.f2.length c]] w fun e w' => e = .returned (.int .i64 v) ∧ Below w.heap.size w w' := by
  have hu25 := Try.underlying25
  have HC := Aside0.mk hC
  have HR := Aside0.mk hr
  have HV := Aside0.mk hv
  clear hC hr hv
  cases r with
  | false =>
    go_enter Try.func14, Try.ntmps14
    go_wp2_with (first | (((with_reducible refine gate_dst (N := 1) rfl ?_); refine box_event ?hg (N := 1) ?hd (cs := #[.int .u8 x.f0, .int .u16 x.f1, .slice A x.f2.length c]) (t := 25) ?hr ?_; (case hd => rfl); (case hg => rfl); (case hr => first | (go_simp; done) | (go_simp; rfl)); intro gb hgb w1 hbox hb1); have HX := Aside0.mk hbox; have HB1 := Aside0.mk hb1; have HGB := Aside0.mk hgb; have y0 : w1.cell? ⟨gb, 0, none⟩ = some (.int .u8 x.f0) := (blk_cell HX.out 0).trans rfl; have y1 : w1.cell? ⟨gb, 1, none⟩ = some (.int .u16 x.f1) := (blk_cell HX.out 1).trans rfl; have y2 : w1.cell? ⟨gb, 2, none⟩ = some (.slice A x.f2.length c) := (blk_cell HX.out 2).trans rfl; clear hgb hbox hb1) | (go_at_call 13; refine (right_calls n x A c false _ hS (by exact Kd.C_below HC.out HB1.out) hc HR.out).mono ?_; rintro e w2 ⟨rfl, hb2⟩; have hB2 := below_in HB1.out hb2))
    go_ret
    exact ⟨by rw [← HV.out]; rfl, by assumption⟩
  | true =>
    go_enter Try.func14, Try.ntmps14
    go_wp2_with (first | (((with_reducible refine gate_dst (N := 1) rfl ?_); refine box_event ?hg (N := 1) ?hd (cs := #[.int .u8 x.f0, .int .u16 x.f1, .slice A x.f2.length c]) (t := 25) ?hr ?_; (case hd => rfl); (case hg => rfl); (case hr => first | (go_simp; done) | (go_simp; rfl)); intro gb hgb w1 hbox hb1); have HX := Aside0.mk hbox; have HB1 := Aside0.mk hb1; have HGB := Aside0.mk hgb; have y0 : w1.cell? ⟨gb, 0, none⟩ = some (.int .u8 x.f0) := (blk_cell HX.out 0).trans rfl; have y1 : w1.cell? ⟨gb, 1, none⟩ = some (.int .u16 x.f1) := (blk_cell HX.out 1).trans rfl; have y2 : w1.cell? ⟨gb, 2, none⟩ = some (.slice A x.f2.length c) := (blk_cell HX.out 2).trans rfl; clear hgb hbox hb1) | (go_at_call 13; refine (right_calls n x A c true _ hS (by exact Kd.C_below HC.out HB1.out) hc HR.out).mono ?_; rintro e w2 ⟨rfl, hb2⟩; have HB2 := Aside0.mk (below_in HB1.out hb2); have HX2 := Aside0.mk (blk_below HX.out hb2); replace y0 := cell_below y0 hb2; replace y1 := cell_below y1 hb2; replace y2 := cell_below y2 hb2; clear hb2) | (((with_reducible refine gate_dst (N := 3) rfl ?_); refine box_event ?hg (N := 3) ?hd (cs := #[.int .i64 0]) (t := 3) ?hr ?_; (case hd => rfl); (case hg => rfl); (case hr => first | (go_simp; done) | (go_simp; rfl)); intro gl hgl w3 hbox3 hb3); have HX3 := Aside0.mk hbox3; have HN := Aside0.mk (show gb ≠ gl by rw [hgl]; exact Nat.ne_of_lt (blk_lt HX2.out)); have HG := Aside0.mk (show w.heap.size ≤ gl by rw [hgl]; exact HB2.out.size); have hn1 := HN.out; have hn2 := HN.out.symm; have yl : w3.cell? ⟨gl, 0, none⟩ = some (.int .i64 0) := (blk_cell HX3.out 0).trans rfl; have yf := blk_frozen HX3.out 0; replace y0 := cell_below y0 hb3; replace y1 := cell_below y1 hb3; replace y2 := cell_below y2 hb3; have HB3 := Aside0.mk (below_in HB2.out hb3); clear hgl hbox3 hb3) | (go_at_call 27; refine (walk28_calls n x A c 1 0 gl w _ hS HC.out hc (by exact below_set' HB3.out HG.out _ _) HG.out (by exact set_one HX3.out _) (by decide) (by omega)).mono ?_; rintro e w5 ⟨rfl, hL5, hB5, hK5⟩; have cL5 := cell_of_one hL5))
    go_ret
    exact ⟨by rw [← HV.out]; rfl, hB5⟩

set_option maxHeartbeats 1600000 in
set_option maxRecDepth 100000 in
theorem deep_calls (n : Nat) (x : S25) (A : Option Addr) (c : Nat) (r : Bool) (v : Int) (w : World) (hn : n ≤ 90) (hS : Sm n x) (hC : Kd.C k25 w A x.f2.length x.f2) (hc : x.f2.length ≤ c) (hr : (cnt 12 x 100).1 = r) (hv : (if r = true then wlk see29 n x 1 0 else 0) = v) :
    Calls Try.prog 15 #[.agg #[.int .u8 x.f0, .int .u16 x.f1, .slice A x.f2.length c]] w fun e w' => e = .returned (.int .i64 v) ∧ Below w.heap.size w w' := by
  have hu25 := Try.underlying25
  have HC := Aside0.mk hC
  have HR := Aside0.mk hr
  have HV := Aside0.mk hv
  clear hC hr hv
  cases r with
  | false =>
    go_enter Try.func15, Try.ntmps15
    go_wp2_with (first | (((with_reducible refine gate_dst (N := 1) rfl ?_); refine box_event ?hg (N := 1) ?hd (cs := #[.int .u8 x.f0, .int .u16 x.f1, .slice A x.f2.length c]) (t := 25) ?hr ?_; (case hd => rfl); (case hg => rfl); (case hr => first | (go_simp; done) | (go_simp; rfl)); intro gb hgb w1 hbox hb1); have HX := Aside0.mk hbox; have HB1 := Aside0.mk hb1; have HGB := Aside0.mk hgb; have y0 : w1.cell? ⟨gb, 0, none⟩ = some (.int .u8 x.f0) := (blk_cell HX.out 0).trans rfl; have y1 : w1.cell? ⟨gb, 1, none⟩ = some (.int .u16 x.f1) := (blk_cell HX.out 1).trans rfl; have y2 : w1.cell? ⟨gb, 2, none⟩ = some (.slice A x.f2.length c) := (blk_cell HX.out 2).trans rfl; clear hgb hbox hb1) | (go_at_call 13; refine (right_calls n x A c false _ hS (by exact Kd.C_below HC.out HB1.out) hc HR.out).mono ?_; rintro e w2 ⟨rfl, hb2⟩; have hB2 := below_in HB1.out hb2))
    go_ret
    exact ⟨by rw [← HV.out]; rfl, by assumption⟩
  | true =>
    go_enter Try.func15, Try.ntmps15
    go_wp2_with (first | (((with_reducible refine gate_dst (N := 1) rfl ?_); refine box_event ?hg (N := 1) ?hd (cs := #[.int .u8 x.f0, .int .u16 x.f1, .slice A x.f2.length c]) (t := 25) ?hr ?_; (case hd => rfl); (case hg => rfl); (case hr => first | (go_simp; done) | (go_simp; rfl)); intro gb hgb w1 hbox hb1); have HX := Aside0.mk hbox; have HB1 := Aside0.mk hb1; have HGB := Aside0.mk hgb; have y0 : w1.cell? ⟨gb, 0, none⟩ = some (.int .u8 x.f0) := (blk_cell HX.out 0).trans rfl; have y1 : w1.cell? ⟨gb, 1, none⟩ = some (.int .u16 x.f1) := (blk_cell HX.out 1).trans rfl; have y2 : w1.cell? ⟨gb, 2, none⟩ = some (.slice A x.f2.length c) := (blk_cell HX.out 2).trans rfl; clear hgb hbox hb1) | (go_at_call 13; refine (right_calls n x A c true _ hS (by exact Kd.C_below HC.out HB1.out) hc HR.out).mono ?_; rintro e w2 ⟨rfl, hb2⟩; have HB2 := Aside0.mk (below_in HB1.out hb2); have HX2 := Aside0.mk (blk_below HX.out hb2); replace y0 := cell_below y0 hb2; replace y1 := cell_below y1 hb2; replace y2 := cell_below y2 hb2; clear hb2) | (((with_reducible refine gate_dst (N := 3) rfl ?_); refine box_event ?hg (N := 3) ?hd (cs := #[.int .i64 0]) (t := 3) ?hr ?_; (case hd => rfl); (case hg => rfl); (case hr => first | (go_simp; done) | (go_simp; rfl)); intro gl hgl w3 hbox3 hb3); have HX3 := Aside0.mk hbox3; have HN := Aside0.mk (show gb ≠ gl by rw [hgl]; exact Nat.ne_of_lt (blk_lt HX2.out)); have HG := Aside0.mk (show w.heap.size ≤ gl by rw [hgl]; exact HB2.out.size); have hn1 := HN.out; have hn2 := HN.out.symm; have yl : w3.cell? ⟨gl, 0, none⟩ = some (.int .i64 0) := (blk_cell HX3.out 0).trans rfl; have yf := blk_frozen HX3.out 0; replace y0 := cell_below y0 hb3; replace y1 := cell_below y1 hb3; replace y2 := cell_below y2 hb3; have HB3 := Aside0.mk (below_in HB2.out hb3); clear hgl hbox3 hb3) | (go_at_call 27; refine (walk29_calls n x A c 1 0 gl w _ hS HC.out hc (by exact below_set' HB3.out HG.out _ _) HG.out (by exact set_one HX3.out _) (by decide) (by omega)).mono ?_; rintro e w5 ⟨rfl, hL5, hB5, hK5⟩; have cL5 := cell_of_one hL5))
    go_ret
    exact ⟨by rw [← HV.out]; rfl, hB5⟩
end Go.Proofs.Ytbhkjaiaglkgjaa

