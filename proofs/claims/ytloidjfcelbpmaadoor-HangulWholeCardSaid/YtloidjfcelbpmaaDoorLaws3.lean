/- The law HangulWhole answers true: its walk. Conditions: the table's block; the numbers are of their kind. -/
import Derived.Test.YtloidjfcelbpmaaDoorLaws
namespace Go.Proofs.YtloidjfcelbpmaaDoor
open Go.RowKit Go.Proofs.YtloidjfcelbpmaaDoorW.PrintWords Go.Proofs.YtloidjfcelbpmaaDoorW.PrintLast Go.Proofs.YtloidjfcelbpmaaDoorW.PrintMore
open PHangulParts

set_option maxHeartbeats 3200000 in
set_option maxRecDepth 100000 in
theorem law_whole (c : Int) (A : Option Addr) (k : Nat) (l : List Int) (w : World) (hc : (Lit.int .i32 c).wf = true) (hr : Kd.C (Kd.int .i32) w A l.length l) (hk : l.length ≤ k) (hw : ∀ n ∈ l, (Lit.int .i32 n).wf = true) (hT : Table w) (h0 : 0 < w.heap.size) :
    Calls Tryd.prog 5 #[.int .i32 c, .slice A l.length k] w fun e w' => e = .returned (.bool true) ∧ Below w.heap.size w w' := by
  by_cases hl : l.length ≤ 300
  · have hd : decide ((300 : Int) < (l.length : Int)) = false := by simp; omega
    have HOL := Aside0.mk (show AllOk l from fun x hx => ok_of_wf (hw x hx))
    have HOC := Aside0.mk (ok_of_wf hc)
    clear hw hc
    by_cases hs : 44032 ≤ c ∧ c ≤ 55203
    · obtain ⟨g1, g2⟩ := whole_parts c hs
      obtain ⟨n, hn⟩ : ∃ n, (parts c).length = n := ⟨_, rfl⟩
      rw [hn] at g2
      have hn2 : 2 ≤ n := by have := (kind_four c).2 hs; omega
      have hn3 : n ≤ 3 := by have := (kind_range c).2; omega
      have HW := Aside0.mk g1
      have HN := Aside0.mk hn
      have HK := Aside0.mk (show kind c = (n : Int) + 2 by omega)
      have hd4 : (4 : Int) ≤ (n : Int) + 2 := by omega
      clear g1 g2 hn hs
      go_enter Tryd.func5, Tryd.ntmps5
      go_wp2_with fail
      refine (alive_any _ hT).mono ?_
      rintro e w1 ⟨rfl, hb1⟩
      have hC1 := Kd.C_below hr hb1
      have T1 := hT.below h0 hb1
      go_wp2_with (go_at_call 10; refine (kind_call c _ HK.out HOC.out _ (by exact T1)).mono ?_)
      rintro e w2 ⟨rfl, hb2⟩
      have hC2 := Kd.C_below hC1 hb2
      have T2 := T1.below T1.pos hb2
      go_wp2_with (go_at_call 13; refine (parts_call c n HN.out _).mono ?_)
      rintro e w3 ⟨A3, k3, rfl, hk3, hC3, hb3⟩
      have hCl3 := Kd.C_below hC2 hb3
      have T3 := T2.below T2.pos hb3
      go_wp2_with (first | (go_at_call 8; refine (whole_call A3 n k3 (parts c) HN.out c true HW.out _ (by exact hC3) hk3).mono ?_; rintro e w' ⟨rfl, ⟨n1, rfl⟩⟩) | (go_at_call 10; refine (kind_call c _ HK.out HOC.out _ (by exact T3)).mono ?_))
      rintro e w4 ⟨rfl, hb4⟩
      have hCl4 := Kd.C_below (Kd.C_drewN hCl3 n1) hb4
      have T4 := (T3.drewN n1).below T3.pos hb4
      have B4 := below_step (pw_below_drewN (below_step (below_step hb1 hb2) hb3) n1) hb4
      go_wp2_with (go_at_call 15; refine (cut_any A k l hk HOL.out (by omega) _ (by exact T4) (by exact hCl4)).mono ?_)
      rintro e w9 ⟨v9, rfl, ho9, hb9⟩
      have HL := Aside0.mk (Kd.C_below hCl4 hb9)
      have HT9 := Aside0.mk (Table.below T4 (Table.pos T4) hb9)
      have HB := Aside0.mk (below_step B4 hb9)
      have hcl := cutFrom_length l 0
      have hch := cut_chain l l.length 0 (by omega)
      rcases Nat.eq_zero_or_pos (cutFrom l 0).length with hz | hpos
      · have hnil : cutFrom l 0 = [] := List.length_eq_zero_iff.1 hz
        rw [hnil] at hch
        have hz0 : 0 = l.length := hch
        rw [hz] at ho9
        obtain ⟨A9, k9, rfl⟩ := own_slice ho9
        have db : ((0 : Int) == (l.length : Int)) = true := by rw [beq_iff_eq]; omega
        clear hz hnil hch hz0
        go_wp2_with fail
        go_loopw [8, 10] (fun a i wr => a = .int .i64 0 ∧ i = .int .i64 0 ∧ wr = w9) (fun _ _ _ => 0)
        case atStart => exact ⟨rfl, rfl, rfl⟩
        case round =>
          obtain ⟨rfl, rfl, rfl⟩ := hrel
          go_wp2
          go_ret
          exact ⟨rfl, HB.out⟩
      · obtain ⟨g3, k3, rfl, hg3, hx3⟩ := pairs_open ho9 rfl hpos
        have HX := Aside0.mk hx3
        clear hx3
        go_wp2_with fail
        go_loopw [8, 10] (fun a i wr => ∃ j at_ : Nat, j ≤ (cutFrom l 0).length ∧ i = .int .i64 j ∧ a = .int .i64 at_ ∧ Aside0 (Chain l at_ ((cutFrom l 0).drop j) l.length) ∧ Below w9.heap.size w9 wr) (fun _ i _ => (cutFrom l 0).length - (intOf i).toNat)
        case atStart => exact ⟨0, 0, Nat.zero_le _, rfl, rfl, ⟨hch⟩, Below.refl _ _⟩
        case round =>
          obtain ⟨j, at_, hj, rfl, rfl, HCH, hb⟩ := hrel
          by_cases hlt : j < (cutFrom l 0).length
          · have hch' := HCH.out
            rw [List.drop_eq_getElem_cons hlt] at hch'
            obtain ⟨b, hpc, hab, hbl, hb3, hbk, hrest⟩ := hch'
            obtain ⟨x1, x2⟩ := HX.out j hlt
            have hgd : (cutFrom l 0).getD j (0, 0) = ((at_ : Int), (b : Int)) := by rw [List.getD_eq_getElem?_getD, List.getElem?_eq_getElem hlt, hpc]; rfl
            rw [hgd] at x1 x2
            have y1 := pw_cell_below hb x1
            have y2 := pw_cell_below hb x2
            have HAL := Aside0.mk (block_alone l at_ b (by omega) hbk)
            have HR := Aside0.mk hrest
            obtain ⟨ad0, e0, _⟩ := Kd.at_int HL.out (at_ : Int) (by omega) (by omega)
            subst e0
            have HS := Aside0.mk (sub_C (Kd.C_below HL.out hb) at_ b k (by omega) hbl hk)
            have HS' := Aside0.mk (show Kd.C (Kd.int .i32) wr (some (ad0.add at_)) (b - at_) ((l.drop at_).take (b - at_)) from by have := HS.out; rw [if_neg (by omega)] at this; exact this)
            have HTw := Aside0.mk (Table.below HT9.out (Table.pos HT9.out) hb)
            have HLP := Aside0.mk (show ((l.drop at_).take (b - at_)).length = b - at_ by rw [List.length_take, List.length_drop]; omega)
            have HOS := Aside0.mk (show AllOk ((l.drop at_).take (b - at_)) from fun x hx => HOL.out x (List.mem_of_mem_drop (List.mem_of_mem_take hx)))
            have q1 : decide (b ≤ at_) = false := by simp; omega
            have q2 : decide (l.length < b) = false := by simp; omega
            have q3 : (0 : Int) ≤ (at_ : Int) := by omega
            have q4 : (at_ : Int) ≤ (b : Int) := by omega
            have q5 : (b : Int) ≤ (k : Int) := by omega
            have q6 : (b : Int) ≤ (at_ : Int) + 3 := by omega
            have q7 : ¬ k = at_ := by omega
            clear hpc hgd x1 x2 hrest hbk
            go_wp2_with (go_at_call 15; refine (cut_len _ (b - at_) (k - at_) _ HLP.out (by omega) HOS.out (by omega) _ 1 HAL.out rfl (by decide) _ (by exact HTw.out) (by first | exact HS'.out | exact HS.out)).mono ?_)
            rintro e wz Az kz rfl hbz
            have y2z := pw_cell_below hbz y2
            go_wp2
            go_roundw
            case rel => exact ⟨j + 1, b, by omega, by go_num, rfl, ⟨HR.out⟩, below_step hb hbz⟩
            case measure => simp [intOf]; omega
          · have hch' := HCH.out
            rw [List.drop_eq_nil_of_le (by omega)] at hch'
            have hz0 : at_ = l.length := hch'
            have db : ((at_ : Int) == (l.length : Int)) = true := by rw [beq_iff_eq]; omega
            have HZ0 := Aside0.mk hz0
            clear hch' hz0
            go_wp2
            go_ret
            exact ⟨rfl, below_step HB.out hb⟩
    · have hp := parts_one c hs
      have hk4 : kind c < 4 := by have := (kind_four c); omega
      obtain ⟨v, hv⟩ : ∃ v, kind c = v := ⟨_, rfl⟩
      rw [hv] at hk4
      have HK := Aside0.mk hv
      have HN := Aside0.mk (show (parts c).length = 1 by rw [hp]; rfl)
      clear hv hp hs
      go_enter Tryd.func5, Tryd.ntmps5
      go_wp2_with fail
      refine (alive_any _ hT).mono ?_
      rintro e w1 ⟨rfl, hb1⟩
      have hC1 := Kd.C_below hr hb1
      have T1 := hT.below h0 hb1
      go_wp2_with (go_at_call 10; refine (kind_call c _ HK.out HOC.out _ (by exact T1)).mono ?_)
      rintro e w2 ⟨rfl, hb2⟩
      have hC2 := Kd.C_below hC1 hb2
      have T2 := T1.below T1.pos hb2
      go_wp2_with (go_at_call 13; refine (parts_call c 1 HN.out _).mono ?_)
      rintro e w3 ⟨A3, k3, rfl, hk3, hC3, hb3⟩
      have hCl3 := Kd.C_below hC2 hb3
      have T3 := T2.below T2.pos hb3
      have B3 := below_step (below_step hb1 hb2) hb3
      go_wp2_with (go_at_call 15; refine (cut_any A k l hk HOL.out (by omega) _ (by exact T3) (by exact hCl3)).mono ?_)
      rintro e w9 ⟨v9, rfl, ho9, hb9⟩
      have HL := Aside0.mk (Kd.C_below hCl3 hb9)
      have HT9 := Aside0.mk (Table.below T3 (Table.pos T3) hb9)
      have HB := Aside0.mk (below_step B3 hb9)
      have hcl := cutFrom_length l 0
      have hch := cut_chain l l.length 0 (by omega)
      rcases Nat.eq_zero_or_pos (cutFrom l 0).length with hz | hpos
      · have hnil : cutFrom l 0 = [] := List.length_eq_zero_iff.1 hz
        rw [hnil] at hch
        have hz0 : 0 = l.length := hch
        rw [hz] at ho9
        obtain ⟨A9, k9, rfl⟩ := own_slice ho9
        have db : ((0 : Int) == (l.length : Int)) = true := by rw [beq_iff_eq]; omega
        clear hz hnil hch hz0
        go_wp2_with fail
        go_loopw [8, 10] (fun a i wr => a = .int .i64 0 ∧ i = .int .i64 0 ∧ wr = w9) (fun _ _ _ => 0)
        case atStart => exact ⟨rfl, rfl, rfl⟩
        case round =>
          obtain ⟨rfl, rfl, rfl⟩ := hrel
          go_wp2
          go_ret
          exact ⟨rfl, HB.out⟩
      · obtain ⟨g3, k3, rfl, hg3, hx3⟩ := pairs_open ho9 rfl hpos
        have HX := Aside0.mk hx3
        clear hx3
        go_wp2_with fail
        go_loopw [8, 10] (fun a i wr => ∃ j at_ : Nat, j ≤ (cutFrom l 0).length ∧ i = .int .i64 j ∧ a = .int .i64 at_ ∧ Aside0 (Chain l at_ ((cutFrom l 0).drop j) l.length) ∧ Below w9.heap.size w9 wr) (fun _ i _ => (cutFrom l 0).length - (intOf i).toNat)
        case atStart => exact ⟨0, 0, Nat.zero_le _, rfl, rfl, ⟨hch⟩, Below.refl _ _⟩
        case round =>
          obtain ⟨j, at_, hj, rfl, rfl, HCH, hb⟩ := hrel
          by_cases hlt : j < (cutFrom l 0).length
          · have hch' := HCH.out
            rw [List.drop_eq_getElem_cons hlt] at hch'
            obtain ⟨b, hpc, hab, hbl, hb3, hbk, hrest⟩ := hch'
            obtain ⟨x1, x2⟩ := HX.out j hlt
            have hgd : (cutFrom l 0).getD j (0, 0) = ((at_ : Int), (b : Int)) := by rw [List.getD_eq_getElem?_getD, List.getElem?_eq_getElem hlt, hpc]; rfl
            rw [hgd] at x1 x2
            have y1 := pw_cell_below hb x1
            have y2 := pw_cell_below hb x2
            have HAL := Aside0.mk (block_alone l at_ b (by omega) hbk)
            have HR := Aside0.mk hrest
            obtain ⟨ad0, e0, _⟩ := Kd.at_int HL.out (at_ : Int) (by omega) (by omega)
            subst e0
            have HS := Aside0.mk (sub_C (Kd.C_below HL.out hb) at_ b k (by omega) hbl hk)
            have HS' := Aside0.mk (show Kd.C (Kd.int .i32) wr (some (ad0.add at_)) (b - at_) ((l.drop at_).take (b - at_)) from by have := HS.out; rw [if_neg (by omega)] at this; exact this)
            have HTw := Aside0.mk (Table.below HT9.out (Table.pos HT9.out) hb)
            have HLP := Aside0.mk (show ((l.drop at_).take (b - at_)).length = b - at_ by rw [List.length_take, List.length_drop]; omega)
            have HOS := Aside0.mk (show AllOk ((l.drop at_).take (b - at_)) from fun x hx => HOL.out x (List.mem_of_mem_drop (List.mem_of_mem_take hx)))
            have q1 : decide (b ≤ at_) = false := by simp; omega
            have q2 : decide (l.length < b) = false := by simp; omega
            have q3 : (0 : Int) ≤ (at_ : Int) := by omega
            have q4 : (at_ : Int) ≤ (b : Int) := by omega
            have q5 : (b : Int) ≤ (k : Int) := by omega
            have q6 : (b : Int) ≤ (at_ : Int) + 3 := by omega
            have q7 : ¬ k = at_ := by omega
            clear hpc hgd x1 x2 hrest hbk
            go_wp2_with (go_at_call 15; refine (cut_len _ (b - at_) (k - at_) _ HLP.out (by omega) HOS.out (by omega) _ 1 HAL.out rfl (by decide) _ (by exact HTw.out) (by first | exact HS'.out | exact HS.out)).mono ?_)
            rintro e wz Az kz rfl hbz
            have y2z := pw_cell_below hbz y2
            go_wp2
            go_roundw
            case rel => exact ⟨j + 1, b, by omega, by go_num, rfl, ⟨HR.out⟩, below_step hb hbz⟩
            case measure => simp [intOf]; omega
          · have hch' := HCH.out
            rw [List.drop_eq_nil_of_le (by omega)] at hch'
            have hz0 : at_ = l.length := hch'
            have db : ((at_ : Int) == (l.length : Int)) = true := by rw [beq_iff_eq]; omega
            have HZ0 := Aside0.mk hz0
            clear hch' hz0
            go_wp2
            go_ret
            exact ⟨rfl, below_step HB.out hb⟩
  · have hd : decide ((300 : Int) < (l.length : Int)) = true := by simp; omega
    go_enter Tryd.func5, Tryd.ntmps5
    go_wp2_with fail
    refine (alive_any _ hT).mono ?_
    rintro e w1 ⟨rfl, hb1⟩
    go_wp2
    go_ret
    exact ⟨rfl, hb1⟩
end Go.Proofs.YtloidjfcelbpmaaDoor
