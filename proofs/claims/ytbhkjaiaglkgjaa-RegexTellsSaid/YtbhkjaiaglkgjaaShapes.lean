/- What the calls of the reference's Shapes and Right answer. Conditions: no node has more than 120 kids; the numbers are of their kinds. -/
import Derived.Test.YtbhkjaiaglkgjaaOpen
import Derived.Deep.DeepCutAuto
import Derived.OpenShut
namespace Go.Proofs.Ytbhkjaiaglkgjaa
open Go.RowKit Go.ChangeShapes Go.WideShapes Go.Proofs.YtbhkjaiaglkgjaaW.PrintWords Go.Proofs.YtbhkjaiaglkgjaaW.PrintLast Go.Proofs.YtbhkjaiaglkgjaaW.PrintMore
open PRegexTells

theorem wp_named {P : Program} {c : Code} {Q : Exit → Act → World → Prop} {a : Act} {w : World} (h : ∀ K : Act → World → Prop, (∀ a w, Q .normal a w → K a w) → Code.wp P c (Exit.then K Q) a w) : Code.wp P c Q a w := by
  have e : Exit.then (fun a w => Q .normal a w) Q = Q := by
    funext x a w
    cases x <;> rfl
  have := h (fun a w => Q .normal a w) (fun _ _ h => h)
  rw [e] at this
  exact this
def shN : Nat → S25 → Bool
  | 0, _ => false
  | n + 1, x => shp x && x.f2.all (shN n)

set_option maxHeartbeats 1600000 in
set_option maxRecDepth 100000 in
theorem shapes_calls (n : Nat) : ∀ (x : S25) (A : Option Addr) (c : Nat) (w : World), Sm n x → WfN n x → Kd.C k25 w A x.f2.length x.f2 → x.f2.length ≤ c →
    Calls Try.prog 25 #[.agg #[.int .u8 x.f0, .int .u16 x.f1, .slice A x.f2.length c]] w fun e w' => e = .returned (.bool (shN n x)) ∧ Below w.heap.size w w' := by
  induction n with
  | zero => intro x A c w hS; exact hS.elim
  | succ n ih =>
    intro x A c w hS hW hC hc
    have hu25 := Try.underlying25
    have HC := Aside0.mk hC
    have HW := Aside0.mk hW
    have hlen := hS.len
    have IHH := Aside0.mk ih
    clear hC hW ih
    go_enter Try.func25, Try.ntmps25
    go_upto_if 11 with (first | (((with_reducible refine gate_dst (N := 1) rfl ?_); refine box_event ?hg (N := 1) ?hd (cs := #[.int .u8 x.f0, .int .u16 x.f1, .slice A x.f2.length c]) (t := 25) ?hr ?_; (case hd => rfl); (case hg => rfl); (case hr => first | (go_simp; done) | (go_simp; rfl)); intro gb hgb w1 hbox hb1); have HX := Aside0.mk hbox; have HB1 := Aside0.mk hb1; have y0 : w1.cell? ⟨gb, 0, none⟩ = some (.int .u8 x.f0) := (blk_cell HX.out 0).trans rfl; have y1 : w1.cell? ⟨gb, 1, none⟩ = some (.int .u16 x.f1) := (blk_cell HX.out 1).trans rfl; have y2 : w1.cell? ⟨gb, 2, none⟩ = some (.slice A x.f2.length c) := (blk_cell HX.out 2).trans rfl; clear hgb hbox hb1))
    refine wp_named fun KN hKN => ?_
    go_cut [4, 11, 20, 29, 39] (fun v4 _v11 _v20 _v29 _v39 wc => v4 = .bool (shp x) ∧ Aside0 (wc.heap[gb]? = some (.cells #[.int .u8 x.f0, .int .u16 x.f1, (.slice A x.f2.length c)] 25 (0, 0))) ∧ Aside0 (Below w.heap.size w wc))
    case first =>
      have hwf := HW.out.2.1
      have hs0 : 0 ≤ x.f1 := (bounds_u16 hwf).1
      clear hwf
      by_cases h0 : x.f0 = 0
      · have e0 : (x.f0 == 0) = true := by simp [h0]
        by_cases hl : x.f2.length = 0
        · have t1 : (((x.f2.length : Nat) : Int) == 0) = true := by rw [lenb0]; simp [hl]
          by_cases hs : x.f1 = 0
          · have t2 : (x.f1 == 0) = true := by simp [hs]
            have HS := Aside0.mk (show shp x = true by unfold shp; simp [h0, hl, hs])
            clear hl hs h0
            (first | rw [e0] | skip)
            go_wp2
            go_meet
            case rel => exact ⟨by rw [HS.out], HX, HB1⟩
          · have t2 : (x.f1 == 0) = false := by simp [hs]
            have HS := Aside0.mk (show shp x = false by unfold shp; simp [h0, hl, hs])
            clear hl hs h0
            (first | rw [e0] | skip)
            go_wp2
            go_meet
            case rel => exact ⟨by rw [HS.out], HX, HB1⟩
        · have t1 : (((x.f2.length : Nat) : Int) == 0) = false := by rw [lenb0]; simp [hl]
          have HS := Aside0.mk (show shp x = false by unfold shp; simp [h0, hl])
          clear hl h0
          (first | rw [e0] | skip)
          go_wp2
          go_meet
          case rel => exact ⟨by rw [HS.out], HX, HB1⟩
      have e0 : (x.f0 == 0) = false := by simp [h0]
      by_cases h1 : x.f0 = 1
      · have e1 : (x.f0 == 1) = true := by simp [h1]
        by_cases hl : x.f2.length = 0
        · have t1 : (((x.f2.length : Nat) : Int) == 0) = true := by rw [lenb0]; simp [hl]
          by_cases hs : ¬ x.f1 = 0
          · have t2 : decide ((0 : Int) < x.f1) = true := decide_eq_true (by omega)
            have HS := Aside0.mk (show shp x = true by unfold shp; simp [h1, hl, hs])
            clear hl hs h0 h1
            (first | rw [e0] | skip)
            go_wp2
            go_meet
            case rel => exact ⟨by rw [HS.out], HX, HB1⟩
          · have t2 : decide ((0 : Int) < x.f1) = false := decide_eq_false (by omega)
            have HS := Aside0.mk (show shp x = false by unfold shp; simp [h1, hl, hs])
            clear hl hs h0 h1
            (first | rw [e0] | skip)
            go_wp2
            go_meet
            case rel => exact ⟨by rw [HS.out], HX, HB1⟩
        · have t1 : (((x.f2.length : Nat) : Int) == 0) = false := by rw [lenb0]; simp [hl]
          have HS := Aside0.mk (show shp x = false by unfold shp; simp [h1, hl])
          clear hl h0 h1
          (first | rw [e0] | skip)
          go_wp2
          go_meet
          case rel => exact ⟨by rw [HS.out], HX, HB1⟩
      have e1 : (x.f0 == 1) = false := by simp [h1]
      by_cases h2 : x.f0 = 2
      · have e2 : (x.f0 == 2) = true := by simp [h2]
        by_cases hl : 0 < x.f2.length
        · have t1 : decide ((0 : Int) < ((x.f2.length : Nat) : Int)) = true := decide_eq_true (by omega); have t3 : 0 < x.f2.length := hl
          by_cases hs : x.f1 = 0
          · have t2 : (x.f1 == 0) = true := by simp [hs]
            have HS := Aside0.mk (show shp x = true by unfold shp; simp [h2, hl, hs])
            clear hl hs h0 h1 h2
            (first | rw [e0] | skip)
            go_wp2
            go_meet
            case rel => exact ⟨by rw [HS.out], HX, HB1⟩
          · have t2 : (x.f1 == 0) = false := by simp [hs]
            have HS := Aside0.mk (show shp x = false by unfold shp; simp [h2, hl, hs])
            clear hl hs h0 h1 h2
            (first | rw [e0] | skip)
            go_wp2
            go_meet
            case rel => exact ⟨by rw [HS.out], HX, HB1⟩
        · have t1 : decide ((0 : Int) < ((x.f2.length : Nat) : Int)) = false := decide_eq_false (by omega); have t3 : ¬ 0 < x.f2.length := hl
          have HS := Aside0.mk (show shp x = false by unfold shp; simp [h2, hl])
          clear hl h0 h1 h2
          (first | rw [e0] | skip)
          go_wp2
          go_meet
          case rel => exact ⟨by rw [HS.out], HX, HB1⟩
      have e2 : (x.f0 == 2) = false := by simp [h2]
      by_cases h3 : x.f0 = 3
      · have e3 : (x.f0 == 3) = true := by simp [h3]
        by_cases hl : 0 < x.f2.length
        · have t1 : decide ((0 : Int) < ((x.f2.length : Nat) : Int)) = true := decide_eq_true (by omega); have t3 : 0 < x.f2.length := hl
          by_cases hs : x.f1 = 0
          · have t2 : (x.f1 == 0) = true := by simp [hs]
            have HS := Aside0.mk (show shp x = true by unfold shp; simp [h3, hl, hs])
            clear hl hs h0 h1 h2 h3
            (first | rw [e0] | skip)
            go_wp2
            go_meet
            case rel => exact ⟨by rw [HS.out], HX, HB1⟩
          · have t2 : (x.f1 == 0) = false := by simp [hs]
            have HS := Aside0.mk (show shp x = false by unfold shp; simp [h3, hl, hs])
            clear hl hs h0 h1 h2 h3
            (first | rw [e0] | skip)
            go_wp2
            go_meet
            case rel => exact ⟨by rw [HS.out], HX, HB1⟩
        · have t1 : decide ((0 : Int) < ((x.f2.length : Nat) : Int)) = false := decide_eq_false (by omega); have t3 : ¬ 0 < x.f2.length := hl
          have HS := Aside0.mk (show shp x = false by unfold shp; simp [h3, hl])
          clear hl h0 h1 h2 h3
          (first | rw [e0] | skip)
          go_wp2
          go_meet
          case rel => exact ⟨by rw [HS.out], HX, HB1⟩
      have e3 : (x.f0 == 3) = false := by simp [h3]
      by_cases h4 : x.f0 = 4
      · have e4 : (x.f0 == 4) = true := by simp [h4]
        by_cases hl : x.f2.length = 1
        · have t1 : (((x.f2.length : Nat) : Int) == 1) = true := by rw [lenb1]; simp [hl]
          by_cases hs : x.f1 = 0
          · have t2 : (x.f1 == 0) = true := by simp [hs]
            have HS := Aside0.mk (show shp x = true by unfold shp; simp [h4, hl, hs])
            clear hl hs h0 h1 h2 h3 h4
            (first | rw [e0] | skip)
            go_wp2
            go_meet
            case rel => exact ⟨by rw [HS.out], HX, HB1⟩
          · have t2 : (x.f1 == 0) = false := by simp [hs]
            have HS := Aside0.mk (show shp x = false by unfold shp; simp [h4, hl, hs])
            clear hl hs h0 h1 h2 h3 h4
            (first | rw [e0] | skip)
            go_wp2
            go_meet
            case rel => exact ⟨by rw [HS.out], HX, HB1⟩
        · have t1 : (((x.f2.length : Nat) : Int) == 1) = false := by rw [lenb1]; simp [hl]
          have HS := Aside0.mk (show shp x = false by unfold shp; simp [h4, hl])
          clear hl h0 h1 h2 h3 h4
          (first | rw [e0] | skip)
          go_wp2
          go_meet
          case rel => exact ⟨by rw [HS.out], HX, HB1⟩
      have e4 : (x.f0 == 4) = false := by simp [h4]
      by_cases h5 : x.f0 = 5
      · have e5 : (x.f0 == 5) = true := by simp [h5]
        by_cases hl : x.f2.length = 1
        · have t1 : (((x.f2.length : Nat) : Int) == 1) = true := by rw [lenb1]; simp [hl]
          by_cases hs : x.f1 = 0
          · have t2 : (x.f1 == 0) = true := by simp [hs]
            have HS := Aside0.mk (show shp x = true by unfold shp; simp [h5, hl, hs])
            clear hl hs h0 h1 h2 h3 h4 h5
            (first | rw [e0] | skip)
            go_wp2
            go_meet
            case rel => exact ⟨by rw [HS.out], HX, HB1⟩
          · have t2 : (x.f1 == 0) = false := by simp [hs]
            have HS := Aside0.mk (show shp x = false by unfold shp; simp [h5, hl, hs])
            clear hl hs h0 h1 h2 h3 h4 h5
            (first | rw [e0] | skip)
            go_wp2
            go_meet
            case rel => exact ⟨by rw [HS.out], HX, HB1⟩
        · have t1 : (((x.f2.length : Nat) : Int) == 1) = false := by rw [lenb1]; simp [hl]
          have HS := Aside0.mk (show shp x = false by unfold shp; simp [h5, hl])
          clear hl h0 h1 h2 h3 h4 h5
          (first | rw [e0] | skip)
          go_wp2
          go_meet
          case rel => exact ⟨by rw [HS.out], HX, HB1⟩
      have e5 : (x.f0 == 5) = false := by simp [h5]
      have HS := Aside0.mk (show shp x = false by unfold shp; simp [h0, h1, h2, h3, h4, h5])
      clear h0 h1 h2 h3 h4 h5
      (first | rw [e0] | skip)
      go_wp2
      go_meet
      case rel => exact ⟨by rw [HS.out], HX, HB1⟩
    case rest =>
      obtain ⟨rfl, HX', HB'⟩ := hcut
      have IH2 := IHH
      refine hKN _ _ ?_
      go_wp2
      go_loopw [4, 5] (fun o i wr => ∃ (k : Nat) (b : Bool), k ≤ x.f2.length ∧ o = .bool b ∧ i = .int .i64 k ∧ Aside0 ((b && (x.f2.drop k).all (shN n)) = shN (n + 1) x) ∧ Aside0 (wr.heap[gb]? = some (.cells #[.int .u8 x.f0, .int .u16 x.f1, (.slice A x.f2.length c)] 25 (0, 0))) ∧ Aside0 (Below w.heap.size w wr)) (fun _ i _ => x.f2.length - (intOf i).toNat)
      case atStart => exact ⟨0, shp x, Nat.zero_le _, rfl, rfl, ⟨rfl⟩, HX', HB'⟩
      case round =>
        obtain ⟨k, b, hk, rfl, rfl, HE, HXr, HBr⟩ := hrel
        have y2 : wr.cell? ⟨gb, 2, none⟩ = some (.slice A x.f2.length c) := (blk_cell HXr.out 2).trans rfl
        by_cases hlt : k < x.f2.length
        · cases b with
          | false =>
            have HF := Aside0.mk (show shN (n + 1) x = false by rw [← HE.out]; rfl)
            go_wp2
            go_ret
            exact ⟨by rw [HF.out]; rfl, HBr.out⟩
          | true =>
            obtain ⟨ad, A2, c2, rfl, hx0, hx1, hx2, hl2, hC2⟩ := at_T25 HC.out (k : Int) (by omega) (by omega)
            rw [Int.toNat_natCast] at hx0 hx1 hx2
            replace hx0 := (HBr.out.cell (World.block_lt_of_cell? w _ hx0)).trans hx0
            replace hx1 := (HBr.out.cell (World.block_lt_of_cell? w _ hx1)).trans hx1
            replace hx2 := (HBr.out.cell (World.block_lt_of_cell? w _ hx2)).trans hx2
            have HST := Aside0.mk (show (shN n (rd_T25 x.f2 (k : Int)) && (x.f2.drop (k + 1)).all (shN n)) = shN (n + 1) x by have := HE.out; rw [rd_drop x.f2 k hlt, List.all_cons] at this; simpa using this)
            obtain ⟨y, hy⟩ : ∃ y, rd_T25 x.f2 (k : Int) = y := ⟨_, rfl⟩
            rw [hy] at hx0 hx1 hx2 hl2 hC2 HST
            have HY := Aside0.mk (hS.2 y (hy ▸ rd_mem x.f2 k hlt))
            have HYW := Aside0.mk (HW.out.2.2 y (hy ▸ rd_mem x.f2 k hlt))
            have HC2 := Aside0.mk hC2
            clear hy hC2
            go_wp2_with (go_at_call 25; refine (IHH.out y A2 c2 _ HY.out HYW.out (by exact Kd.C_below HC2.out HBr.out) hl2).mono ?_; rintro e w3 ⟨rfl, hb3⟩)
            go_roundw
            case rel => exact ⟨k + 1, shN n y, by omega, rfl, by go_num, HST, ⟨blk_below HXr.out hb3⟩, ⟨below_in HBr.out hb3⟩⟩
            case measure => simp [intOf]; omega
        · obtain rfl : k = x.f2.length := by omega
          have HF := Aside0.mk (show shN (n + 1) x = b by have := HE.out; rw [List.drop_eq_nil_of_le (Nat.le_refl _)] at this; rw [← this]; simp)
          go_wp2
          go_ret
          exact ⟨by rw [HF.out]; rfl, HBr.out⟩
end Go.Proofs.Ytbhkjaiaglkgjaa

