/- The law JoiningTurns answers true: its walk. Condition: the table's cells. -/
import Derived.Test.YtdaeombjdagnbaaDoorMath3
import Derived.Test.YtdaeombjdagnbaaDoorFormsWalk
namespace Go.Proofs.YtdaeombjdagnbaaDoor
open Go.RowKit Go.Proofs.YtdaeombjdagnbaaDoorW.PrintWords Go.Proofs.YtdaeombjdagnbaaDoorW.PrintLast Go.Proofs.YtdaeombjdagnbaaDoorW.PrintMore
open PJoiningForms Math

theorem one_new (W : World) (x : Int) : ∀ j u, ([.int .i64 x] : List Value)[j]? = some u → (W.alloc (.cells #[.int .i64 x] 3)).cell? ((⟨W.heap.size, 0, none⟩ : Addr).add j) = some u := by
  intro j u hj
  match j, hj with
  | 0, hj => simp at hj; subst hj; simp [Addr.add]

theorem forms_call' (A0 : Option Addr) (n c0 : Nat) (l : List Int) (hn : l.length = n) (w : World) (hr0 : Kd.C (Kd.int .i64) w A0 n l) (hc0 : n ≤ c0) (hl : n ≤ 1000) :
    Calls Tryd.prog 11 #[.slice A0 n c0] w fun e w' => ∃ A c, e = .returned (.slice A n c) ∧ n ≤ c ∧ Kd.C (Kd.int .i64) w' A n (forms l) ∧ Below w.heap.size w w' := by
  subst hn
  have h := forms_call A0 c0 l w hr0 hc0 hl
  rw [forms_length] at h
  exact h

set_option maxHeartbeats 3200000 in
set_option maxRecDepth 100000 in
theorem law_turns (A0 : Option Addr) (c0 : Nat) (l : List Int) (w : World) (hr0 : Kd.C (Kd.int .i64) w A0 l.length l) (hc0 : l.length ≤ c0) (hT : Table w) (h0 : 0 < w.heap.size) :
    Calls Tryd.prog 5 #[.slice A0 l.length c0] w fun e w' => e = .returned (.bool true) ∧ Below w.heap.size w w' := by
  by_cases hl : l.length ≤ 200
  · have hd : decide ((200 : Int) < (l.length : Int)) = false := by simp; omega
    obtain ⟨i0, hi, hz0, hz1, hz2⟩ := info_parts info3
    go_enter Tryd.func5, Tryd.ntmps5
    go_wp2_with fail
    refine (alive_any _ hT h0).mono ?_
    rintro e w1 ⟨rfl, hb1⟩
    have HC1 := Aside0.mk (Kd.C_below hr0 hb1)
    go_wp2_with fail
    go_loopw [3, 4, 5] (fun v i _ wr => ∃ d : Nat, d ≤ l.length ∧ i = .int .i64 ((d : Int) - 1) ∧ wr.ownsRow w1.heap.size 3 1 v (l.length - d) (nums .i64 ((back l).take (l.length - d))) ∧ Below w1.heap.size w1 wr) (fun _ i _ _ => (intOf i + 1).toNat)
    case atStart => exact ⟨l.length, Nat.le_refl _, rfl, by rw [Nat.sub_self]; exact World.ownsRow_nil _ _ _ _, Below.refl _ _⟩
    case round =>
      obtain ⟨d, hk, rfl, hown, hb⟩ := hrel
      have hsz1 := hb.size
      cases d with
      | zero =>
        have hown' : wr.ownsRow w1.heap.size 3 1 u3 l.length (nums .i64 (back l)) := by
          rw [Nat.sub_zero, List.take_of_length_le (by rw [back_length]; omega)] at hown
          exact hown
        obtain ⟨A4, c4, rfl, hR4⟩ := own_reads hown'
        have hC4 : Kd.C (Kd.int .i64) wr A4 l.length (back l) := Kd.C_of_reads (enc := Value.int .i64) (d := (0 : Int)) hR4
        have hc4 := own_cap hown'
        have hCr := Kd.C_below HC1.out hb
        clear hown
        go_wp2_with (go_at_call 11; refine (forms_call' A0 l.length c0 l rfl _ (by exact hCr) hc0 (by omega)).mono ?_)
        rintro e w2 ⟨A2, c2, rfl, hc2, hC2, hb2⟩
        have hC4' := Kd.C_below hC4 hb2
        go_wp2_with (go_at_call 11; refine (forms_call' A4 l.length c4 (back l) (back_length l) _ (by exact hC4') hc4 (by omega)).mono ?_)
        rintro e w3 ⟨A3, c3, rfl, hc3, hC3, hb3⟩
        have HF := Aside0.mk (Kd.C_below hC2 hb3)
        have HG := Aside0.mk hC3
        have HL := Aside0.mk (Kd.C_below (Kd.C_below hCr hb2) hb3)
        have HB := Aside0.mk (below_step (below_step (below_step hb1 hb) hb2) hb3)
        clear hC2 hC3 hCr hC4 hC4' hR4 hown' hb hb2 hb3
        go_wp2_with fail
        go_loopw [8, 9, 10] (fun q i _ wr => ∃ k : Nat, k ≤ l.length ∧ i = .int .i64 k ∧ ∃ z : Int, q = .int .i64 z ∧ Aside0 (z = lastp l k) ∧ wr = w3) (fun _ i _ _ => l.length - (intOf i).toNat)
        case atStart => exact ⟨0, Nat.zero_le _, rfl, -1, rfl, ⟨rfl⟩, rfl⟩
        case round =>
          obtain ⟨k, hk', rfl, z, rfl, HZ, rfl⟩ := hrel
          have hlb := lastp_bound l k
          by_cases hlt : k < l.length
          · obtain ⟨ad2, e2, hf⟩ := Kd.at_int HF.out (k : Int) (by omega) (by omega)
            obtain ⟨ad3, e3, hg⟩ := Kd.at_int HG.out ((l.length - 1 - k : Nat) : Int) (by omega) (by omega)
            obtain ⟨ad0, e0, hx⟩ := Kd.at_int HL.out (k : Int) (by omega) (by omega)
            subst e2
            subst e3
            subst e0
            rw [Int.toNat_natCast] at hf hg hx
            rw [rd_forms l k hlt] at hf
            rw [rd_forms (back l) _ (by rw [back_length]; omega), form_back l k hlt] at hg
            have hidx : ((l.length : Int) - 1 - (k : Int)).toNat = l.length - 1 - k := by omega
            have hi0 : (0 : Int) ≤ (l.length : Int) - 1 - (k : Int) := by omega
            have hi1 : (l.length : Int) - 1 - (k : Int) < (l.length : Int) := by omega
            have hi2 : (k : Int) ≤ (l.length : Int) - 1 := by omega
            have HS := Lib.hid (show lastp l (k + 1) = _ from rfl)
            have hr := fm_range (rd l k) (lf l k) (rg l k)
            have hform : form l k = fm (rd l k) (lf l k) (rg l k) := rfl
            rw [← hform] at hr
            by_cases h5 : rd l (k : Int) = 5
            · have hz : form l k = 0 := by unfold form fm; rw [h5]; rfl
              rw [hz] at hf hg
              rw [h5] at hx
              have hg' : wr.cell? (ad3.add (l.length - 1 - k)) = some (.int .i64 0) := hg
              have HS' := Lib.hid (HS.out.trans (if_pos h5))
              clear hr hform hz h5 hg HS
              go_wp2
              refine ⟨⟨k + 1, by omega, by go_num, z, rfl, ⟨by rw [HS'.out]; exact HZ.out⟩, by first | trivial | rfl⟩, by simp [intOf]; omega⟩
            · have b5 : (rd l (k : Int) == 5) = false := by simp [h5]
              have HS' := Lib.hid (HS.out.trans (if_neg h5))
              have HJ := Lib.hid (fun q hq h => joined l k q hlt h5 hq h)
              clear hform HS
              by_cases hz0 : z < 0
              · have d0 : decide (0 ≤ z) = false := by simp; omega
                rcases hr with h | h | h | h | h
                · rw [h] at hf hg
                  have hg' : wr.cell? (ad3.add (l.length - 1 - k)) = some (.int .i64 0) := hg
                  clear h hg hz0 hlb h5
                  go_wp2
                  go_roundw
                  case rel => exact ⟨k + 1, by omega, by go_num, (k : Int), rfl, ⟨HS'.out.symm⟩, by first | trivial | rfl⟩
                  case measure => simp [intOf]; omega
                · rw [h] at hf hg
                  have hg' : wr.cell? (ad3.add (l.length - 1 - k)) = some (.int .i64 1) := hg
                  clear h hg hz0 hlb h5
                  go_wp2
                  go_roundw
                  case rel => exact ⟨k + 1, by omega, by go_num, (k : Int), rfl, ⟨HS'.out.symm⟩, by first | trivial | rfl⟩
                  case measure => simp [intOf]; omega
                · rw [h] at hf hg
                  have hg' : wr.cell? (ad3.add (l.length - 1 - k)) = some (.int .i64 4) := hg
                  clear h hg hz0 hlb h5
                  go_wp2
                  go_roundw
                  case rel => exact ⟨k + 1, by omega, by go_num, (k : Int), rfl, ⟨HS'.out.symm⟩, by first | trivial | rfl⟩
                  case measure => simp [intOf]; omega
                · rw [h] at hf hg
                  have hg' : wr.cell? (ad3.add (l.length - 1 - k)) = some (.int .i64 3) := hg
                  clear h hg hz0 hlb h5
                  go_wp2
                  go_roundw
                  case rel => exact ⟨k + 1, by omega, by go_num, (k : Int), rfl, ⟨HS'.out.symm⟩, by first | trivial | rfl⟩
                  case measure => simp [intOf]; omega
                · rw [h] at hf hg
                  have hg' : wr.cell? (ad3.add (l.length - 1 - k)) = some (.int .i64 2) := hg
                  clear h hg hz0 hlb h5
                  go_wp2
                  go_roundw
                  case rel => exact ⟨k + 1, by omega, by go_num, (k : Int), rfl, ⟨HS'.out.symm⟩, by first | trivial | rfl⟩
                  case measure => simp [intOf]; omega
              · obtain ⟨q, rfl⟩ := Int.eq_ofNat_of_zero_le (show 0 ≤ z by omega)
                have hqk : q < k := by have := HZ.out; omega
                obtain ⟨ad2', e2, hfq⟩ := Kd.at_int HF.out (q : Int) (by omega) (by omega)
                obtain rfl : ad2 = ad2' := by injection e2
                rw [Int.toNat_natCast, rd_forms l q (by omega)] at hfq
                have d1 : (0 : Int) ≤ (q : Int) := by omega
                have d2 : (q : Int) < (l.length : Int) := by omega
                clear e2 hz0 hlb
                by_cases h3 : form l q = 3
                · have hj := HJ.out q HZ.out.symm (.inl h3)
                  rw [h3] at hfq
                  clear h3
                  rcases hr with h | h | h | h | h
                  · rw [h] at hf hg
                    have hg' : wr.cell? (ad3.add (l.length - 1 - k)) = some (.int .i64 0) := hg
                    have b4 : (rd l (k : Int) != 4) = false := by simp [show rd l (k : Int) = 4 by omega]
                    clear h hg hj h5
                    go_wp2
                    go_roundw
                    case rel => exact ⟨k + 1, by omega, by go_num, (k : Int), rfl, ⟨HS'.out.symm⟩, by first | trivial | rfl⟩
                    case measure => simp [intOf]; omega
                  · rw [h] at hf hg
                    have hg' : wr.cell? (ad3.add (l.length - 1 - k)) = some (.int .i64 1) := hg
                    have b4 : (rd l (k : Int) != 4) = false := by simp [show rd l (k : Int) = 4 by omega]
                    clear h hg hj h5
                    go_wp2
                    go_roundw
                    case rel => exact ⟨k + 1, by omega, by go_num, (k : Int), rfl, ⟨HS'.out.symm⟩, by first | trivial | rfl⟩
                    case measure => simp [intOf]; omega
                  · rw [h] at hf hg
                    have hg' : wr.cell? (ad3.add (l.length - 1 - k)) = some (.int .i64 4) := hg
                    clear h hg hj h5
                    go_wp2
                    go_roundw
                    case rel => exact ⟨k + 1, by omega, by go_num, (k : Int), rfl, ⟨HS'.out.symm⟩, by first | trivial | rfl⟩
                    case measure => simp [intOf]; omega
                  · rw [h] at hf hg
                    have hg' : wr.cell? (ad3.add (l.length - 1 - k)) = some (.int .i64 3) := hg
                    clear h hg hj h5
                    go_wp2
                    go_roundw
                    case rel => exact ⟨k + 1, by omega, by go_num, (k : Int), rfl, ⟨HS'.out.symm⟩, by first | trivial | rfl⟩
                    case measure => simp [intOf]; omega
                  · rw [h] at hf hg
                    have hg' : wr.cell? (ad3.add (l.length - 1 - k)) = some (.int .i64 2) := hg
                    have b4 : (rd l (k : Int) != 4) = false := by simp [show rd l (k : Int) = 4 by omega]
                    clear h hg hj h5
                    go_wp2
                    go_roundw
                    case rel => exact ⟨k + 1, by omega, by go_num, (k : Int), rfl, ⟨HS'.out.symm⟩, by first | trivial | rfl⟩
                    case measure => simp [intOf]; omega
                · by_cases h4 : form l q = 4
                  · have hj := HJ.out q HZ.out.symm (.inr h4)
                    rw [h4] at hfq
                    clear h3 h4
                    rcases hr with h | h | h | h | h
                    · rw [h] at hf hg
                      have hg' : wr.cell? (ad3.add (l.length - 1 - k)) = some (.int .i64 0) := hg
                      have b4 : (rd l (k : Int) != 4) = false := by simp [show rd l (k : Int) = 4 by omega]
                      clear h hg hj h5
                      go_wp2
                      go_roundw
                      case rel => exact ⟨k + 1, by omega, by go_num, (k : Int), rfl, ⟨HS'.out.symm⟩, by first | trivial | rfl⟩
                      case measure => simp [intOf]; omega
                    · rw [h] at hf hg
                      have hg' : wr.cell? (ad3.add (l.length - 1 - k)) = some (.int .i64 1) := hg
                      have b4 : (rd l (k : Int) != 4) = false := by simp [show rd l (k : Int) = 4 by omega]
                      clear h hg hj h5
                      go_wp2
                      go_roundw
                      case rel => exact ⟨k + 1, by omega, by go_num, (k : Int), rfl, ⟨HS'.out.symm⟩, by first | trivial | rfl⟩
                      case measure => simp [intOf]; omega
                    · rw [h] at hf hg
                      have hg' : wr.cell? (ad3.add (l.length - 1 - k)) = some (.int .i64 4) := hg
                      clear h hg hj h5
                      go_wp2
                      go_roundw
                      case rel => exact ⟨k + 1, by omega, by go_num, (k : Int), rfl, ⟨HS'.out.symm⟩, by first | trivial | rfl⟩
                      case measure => simp [intOf]; omega
                    · rw [h] at hf hg
                      have hg' : wr.cell? (ad3.add (l.length - 1 - k)) = some (.int .i64 3) := hg
                      clear h hg hj h5
                      go_wp2
                      go_roundw
                      case rel => exact ⟨k + 1, by omega, by go_num, (k : Int), rfl, ⟨HS'.out.symm⟩, by first | trivial | rfl⟩
                      case measure => simp [intOf]; omega
                    · rw [h] at hf hg
                      have hg' : wr.cell? (ad3.add (l.length - 1 - k)) = some (.int .i64 2) := hg
                      have b4 : (rd l (k : Int) != 4) = false := by simp [show rd l (k : Int) = 4 by omega]
                      clear h hg hj h5
                      go_wp2
                      go_roundw
                      case rel => exact ⟨k + 1, by omega, by go_num, (k : Int), rfl, ⟨HS'.out.symm⟩, by first | trivial | rfl⟩
                      case measure => simp [intOf]; omega
                  · have z3 : (form l q == 3) = false := by simp [h3]
                    have z4 : (form l q == 4) = false := by simp [h4]
                    clear h3 h4
                    rcases hr with h | h | h | h | h
                    · rw [h] at hf hg
                      have hg' : wr.cell? (ad3.add (l.length - 1 - k)) = some (.int .i64 0) := hg
                      clear h hg h5
                      go_wp2
                      go_roundw
                      case rel => exact ⟨k + 1, by omega, by go_num, (k : Int), rfl, ⟨HS'.out.symm⟩, by first | trivial | rfl⟩
                      case measure => simp [intOf]; omega
                    · rw [h] at hf hg
                      have hg' : wr.cell? (ad3.add (l.length - 1 - k)) = some (.int .i64 1) := hg
                      clear h hg h5
                      go_wp2
                      go_roundw
                      case rel => exact ⟨k + 1, by omega, by go_num, (k : Int), rfl, ⟨HS'.out.symm⟩, by first | trivial | rfl⟩
                      case measure => simp [intOf]; omega
                    · rw [h] at hf hg
                      have hg' : wr.cell? (ad3.add (l.length - 1 - k)) = some (.int .i64 4) := hg
                      clear h hg h5
                      go_wp2
                      go_roundw
                      case rel => exact ⟨k + 1, by omega, by go_num, (k : Int), rfl, ⟨HS'.out.symm⟩, by first | trivial | rfl⟩
                      case measure => simp [intOf]; omega
                    · rw [h] at hf hg
                      have hg' : wr.cell? (ad3.add (l.length - 1 - k)) = some (.int .i64 3) := hg
                      clear h hg h5
                      go_wp2
                      go_roundw
                      case rel => exact ⟨k + 1, by omega, by go_num, (k : Int), rfl, ⟨HS'.out.symm⟩, by first | trivial | rfl⟩
                      case measure => simp [intOf]; omega
                    · rw [h] at hf hg
                      have hg' : wr.cell? (ad3.add (l.length - 1 - k)) = some (.int .i64 2) := hg
                      clear h hg h5
                      go_wp2
                      go_roundw
                      case rel => exact ⟨k + 1, by omega, by go_num, (k : Int), rfl, ⟨HS'.out.symm⟩, by first | trivial | rfl⟩
                      case measure => simp [intOf]; omega
          · obtain rfl : k = l.length := by omega
            by_cases hz0 : z < 0
            · have d0 : decide (z < 0) = true := by simpa using hz0
              go_wp2
              go_ret
              exact ⟨rfl, HB.out⟩
            · have d0 : decide (z < 0) = false := by simp; omega
              obtain ⟨q, rfl⟩ := Int.eq_ofNat_of_zero_le (show 0 ≤ z by omega)
              have hlz := HZ.out
              obtain ⟨n3, n4⟩ := last_form l q hlz.symm
              obtain ⟨ad2, e2, hfq⟩ := Kd.at_int HF.out (q : Int) (by omega) (by omega)
              subst e2
              rw [Int.toNat_natCast, rd_forms l q (by omega)] at hfq
              have d1 : (0 : Int) ≤ (q : Int) := by omega
              have d2 : (q : Int) < (l.length : Int) := by omega
              have z3 : (form l q != 3) = true := by simp [n3]
              have z4 : (form l q != 4) = true := by simp [n4]
              clear hz0 hlb hlz n3 n4
              go_wp2
              go_ret
              exact ⟨rfl, HB.out⟩
      | succ m =>
        obtain ⟨ad0, e0, hx0⟩ := Kd.at_int (Kd.C_below HC1.out hb) (m : Int) (by omega) (by omega)
        subst e0
        rw [Int.toNat_natCast] at hx0
        have hbk := back_take l (l.length - (m + 1)) (by omega)
        rw [show l.length - 1 - (l.length - (m + 1)) = m by omega] at hbk
        by_cases h1 : rd l (m : Int) = 1
        · have hB : (back l).take (l.length - (m + 1) + 1) = (back l).take (l.length - (m + 1)) ++ [3] := by rw [hbk, h1]; rfl
          have HB := Lib.hid hB
          rw [h1] at hx0
          clear hbk hB h1
          go_wp2_with (at_builtin; refine wpList_append_own _ rfl _ _ 22 rfl w1.heap.size 3 i0 (.int .i64 0) 1 8 Tryd.underlying22 hi hz0 hz1 hz2 rfl (by decide) _ _ _ rfl (hown.alloc _) ⟨wr.heap.size, 0, none⟩ 1 1 [.int .i64 3] rfl rfl ?c1 ?c2 ?c3 ?c4 ?c5 ?_)
          case c1 => exact one_new _ _
          case c2 => intro u hu; simp at hu; subst hu; rfl
          case c3 => unfold maxLen; omega
          case c4 => omega
          case c5 => simp; omega
          intro v' w2 hown1 hgrow1 _
          have hb2 : Below w1.heap.size w1 w2 := (hb.alloc hb.size _).grown hgrow1 (by simp; omega) (fun j hj => (hown.lt j hj).1)
          go_wp2
          go_roundw
          case rel => exact ⟨m, by omega, rfl, by rw [show l.length - m = l.length - (m + 1) + 1 by omega, HB.out]; simpa [nums] using hown1, hb2⟩
          case measure => simp [intOf]
        · by_cases h3 : rd l (m : Int) = 3
          · have hB : (back l).take (l.length - (m + 1) + 1) = (back l).take (l.length - (m + 1)) ++ [1] := by rw [hbk, h3]; rfl
            have HB := Lib.hid hB
            rw [h3] at hx0
            clear hbk hB h1 h3
            go_wp2_with (at_builtin; refine wpList_append_own _ rfl _ _ 22 rfl w1.heap.size 3 i0 (.int .i64 0) 1 8 Tryd.underlying22 hi hz0 hz1 hz2 rfl (by decide) _ _ _ rfl (hown.alloc _) ⟨wr.heap.size, 0, none⟩ 1 1 [.int .i64 1] rfl rfl ?c1 ?c2 ?c3 ?c4 ?c5 ?_)
            case c1 => exact one_new _ _
            case c2 => intro u hu; simp at hu; subst hu; rfl
            case c3 => unfold maxLen; omega
            case c4 => omega
            case c5 => simp; omega
            intro v' w2 hown1 hgrow1 _
            have hb2 : Below w1.heap.size w1 w2 := (hb.alloc hb.size _).grown hgrow1 (by simp; omega) (fun j hj => (hown.lt j hj).1)
            go_wp2
            go_roundw
            case rel => exact ⟨m, by omega, rfl, by rw [show l.length - m = l.length - (m + 1) + 1 by omega, HB.out]; simpa [nums] using hown1, hb2⟩
            case measure => simp [intOf]
          · have hB : (back l).take (l.length - (m + 1) + 1) = (back l).take (l.length - (m + 1)) ++ [rd l (m : Int)] := by rw [hbk]; unfold sw; rw [if_neg h1, if_neg h3]
            have HB := Lib.hid hB
            have b1 : (rd l (m : Int) == 1) = false := by simp [h1]
            have b3 : (rd l (m : Int) == 3) = false := by simp [h3]
            clear hbk hB h1 h3
            go_wp2_with (at_builtin; refine wpList_append_own _ rfl _ _ 22 rfl w1.heap.size 3 i0 (.int .i64 0) 1 8 Tryd.underlying22 hi hz0 hz1 hz2 rfl (by decide) _ _ _ rfl (hown.alloc _) ⟨wr.heap.size, 0, none⟩ 1 1 [.int .i64 (rd l (m : Int))] rfl rfl ?c1 ?c2 ?c3 ?c4 ?c5 ?_)
            case c1 => exact one_new _ _
            case c2 => intro u hu; simp at hu; subst hu; rfl
            case c3 => unfold maxLen; omega
            case c4 => omega
            case c5 => simp; omega
            intro v' w2 hown1 hgrow1 _
            have hb2 : Below w1.heap.size w1 w2 := (hb.alloc hb.size _).grown hgrow1 (by simp; omega) (fun j hj => (hown.lt j hj).1)
            go_wp2
            go_roundw
            case rel => exact ⟨m, by omega, rfl, by rw [show l.length - m = l.length - (m + 1) + 1 by omega, HB.out]; simpa [nums] using hown1, hb2⟩
            case measure => simp [intOf]
  · have hd : decide ((200 : Int) < (l.length : Int)) = true := by simp; omega
    go_enter Tryd.func5, Tryd.ntmps5
    go_wp2_with fail
    refine (alive_any _ hT h0).mono ?_
    rintro e w1 ⟨rfl, hb1⟩
    go_wp2
    go_ret
    exact ⟨rfl, hb1⟩
end Go.Proofs.YtdaeombjdagnbaaDoor
