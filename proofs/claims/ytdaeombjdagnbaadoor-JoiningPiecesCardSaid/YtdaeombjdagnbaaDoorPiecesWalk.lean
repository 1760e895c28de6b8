/- The law JoiningPieces answers true: its walk. Condition: the table's cells. -/
import Derived.Test.YtdaeombjdagnbaaDoorMath4
import Derived.Test.YtdaeombjdagnbaaDoorTurnsWalk
import Derived.Test.YtdaeombjdagnbaaDoorCutsWalk
import Derived.Deep.RegionHeld3
namespace Go.Proofs.YtdaeombjdagnbaaDoor
open Go.RowKit Go.Proofs.YtdaeombjdagnbaaDoorW.PrintWords Go.Proofs.YtdaeombjdagnbaaDoorW.PrintLast Go.Proofs.YtdaeombjdagnbaaDoorW.PrintMore
open PJoiningForms Math

theorem sub_C {w : World} {ad : Addr} {l : List Int} (h : Kd.C (Kd.int .i64) w (some ad) l.length l) (a b cap : Nat) (hab : a ≤ b) (hb : b ≤ l.length) (hc : l.length ≤ cap) :
    Kd.C (Kd.int .i64) w (if cap = a then some ad else some (ad.add a)) (b - a) ((l.drop a).take (b - a)) := by
  have h1 := Kd.C_drop h (m := a) (c := cap) (by omega) hc
  have h2 := Kd.C_take h1 (m := b - a) (by rw [List.length_drop]; omega)
  have e : ((l.drop a).take (b - a)).length = b - a := by rw [List.length_take, List.length_drop]; omega
  rw [e] at h2
  have e2 : a * (Kd.int .i64).sz = a := Nat.mul_one a
  rw [e2] at h2
  exact h2
theorem ints_same' (A0 A1 : Option Addr) (n c0 c1 : Nat) (l m : List Int) (hn : l.length = n) (hm : m = l) (w : World) (hr0 : Kd.C (Kd.int .i64) w A0 n l) (hc0 : n ≤ c0) (hr1 : Kd.C (Kd.int .i64) w A1 n m) (hc1 : n ≤ c1) (hl : n ≤ 1000) :
    Calls Tryd.prog 10 #[.slice A0 n c0, .slice A1 n c1] w fun e w' => e = .returned (.bool true) ∧ Drawn0 w w' := by
  subst hn
  subst hm
  exact ints_same A0 A1 c0 c1 m w hr0 hc0 hr1 hc1 hl

set_option maxHeartbeats 3200000 in
set_option maxRecDepth 100000 in
theorem law_pieces (A0 : Option Addr) (c0 : Nat) (l : List Int) (w : World) (hr0 : Kd.C (Kd.int .i64) w A0 l.length l) (hc0 : l.length ≤ c0) (hT : Table w) (h0 : 0 < w.heap.size) :
    Calls Tryd.prog 6 #[.slice A0 l.length c0] w fun e w' => e = .returned (.bool true) ∧ Below w.heap.size w w' := by
  by_cases hl : l.length ≤ 200
  · have hd : decide ((200 : Int) < (l.length : Int)) = false := by simp; omega
    go_enter Tryd.func6, Tryd.ntmps6
    go_wp2_with fail
    refine (alive_any _ hT h0).mono ?_
    rintro e w1 ⟨rfl, hb1⟩
    have hC1 := Kd.C_below hr0 hb1
    go_wp2_with (go_at_call 11; refine (forms_call' A0 l.length c0 l rfl _ (by exact hC1) hc0 (by omega)).mono ?_)
    rintro e w2 ⟨A2, c2, rfl, hc2, hC2, hb2⟩
    have hC1' := Kd.C_below hC1 hb2
    go_wp2_with (go_at_call 13; refine (cuts_any A0 c0 l _ (by exact hC1') hc0 (by omega)).mono ?_)
    rintro e w3 ⟨v3, rfl, ho3, hb3⟩
    have HF := Aside0.mk (Kd.C_below hC2 hb3)
    have HL := Aside0.mk (Kd.C_below hC1' hb3)
    have HB := Aside0.mk (below_step (below_step hb1 hb2) hb3)
    have hcl := cuts_length l
    have hch := cuts_chain l
    rcases Nat.eq_zero_or_pos (cuts l).length with hz | hpos
    · have hnil : cuts l = [] := List.length_eq_zero_iff.1 hz
      rw [hnil] at hch
      have hz0 : 0 = l.length := hch
      rw [hz] at ho3
      obtain ⟨A3, k3, rfl⟩ := own_slice ho3
      have dz : decide ((0 : Int) = (l.length : Int)) = true := by simp; omega
      have HZ0 := Lib.hid hz0
      clear hz hnil hch hz0
      go_wp2_with fail
      have db : ((0 : Int) == (l.length : Int)) = true := by rw [beq_iff_eq]; have := HZ0.out; omega
      go_loopw [5, 6] (fun a i wr => a = .int .i64 0 ∧ i = .int .i64 0 ∧ wr = w3) (fun _ _ _ => 0)
      case atStart => exact ⟨rfl, rfl, rfl⟩
      case round =>
        obtain ⟨rfl, rfl, rfl⟩ := hrel
        go_wp2
        go_ret
        exact ⟨rfl, HB.out⟩
    · obtain ⟨g3, k3, rfl, hg3, hx3⟩ := pairs_open ho3 rfl hpos
      have HX := Aside0.mk hx3
      clear hx3
      go_wp2_with fail
      go_loopw [5, 6] (fun a i wr => ∃ k at_ : Nat, k ≤ (cuts l).length ∧ i = .int .i64 k ∧ a = .int .i64 at_ ∧ Aside0 (Chain l at_ ((cuts l).drop k) l.length) ∧ Aside0 (isCut l at_ ∨ at_ = l.length) ∧ Below w3.heap.size w3 wr) (fun _ i _ => (cuts l).length - (intOf i).toNat)
      case atStart => exact ⟨0, 0, Nat.zero_le _, rfl, rfl, ⟨hch⟩, ⟨.inl (.inl rfl)⟩, Below.refl _ _⟩
      case round =>
        obtain ⟨k, at_, hk, rfl, rfl, HCH, HA, hb⟩ := hrel
        by_cases hlt : k < (cuts l).length
        · have hch' := HCH.out
          rw [List.drop_eq_getElem_cons hlt] at hch'
          obtain ⟨c, hpc, hac, hcl', hec, hrest⟩ := hch'
          obtain ⟨x1, x2⟩ := HX.out k hlt
          have hgd : (cuts l).getD k (0, 0) = ((at_ : Int), (c : Int)) := by rw [List.getD_eq_getElem?_getD, List.getElem?_eq_getElem hlt, hpc]; rfl
          rw [hgd] at x1 x2
          have y1 := pw_cell_below hb x1
          have y2 := pw_cell_below hb x2
          have ha : isCut l at_ := by
            rcases HA.out with h | h
            · exact h
            · omega
          have HPF := Lib.hid (piece_forms l at_ c ha hac hcl' hec)
          have HR := Aside0.mk hrest
          have HE := Aside0.mk hec
          have q1 : decide (c ≤ at_) = false := by simp; omega
          have q2 : decide (l.length < c) = false := by simp; omega
          have q3 : (0 : Int) ≤ (at_ : Int) := by omega
          have q4 : (at_ : Int) ≤ (c : Int) := by omega
          have q5 : (c : Int) ≤ (c0 : Int) := by omega
          have q6 : (c : Int) ≤ (c2 : Int) := by omega
          obtain ⟨ad0, e0, _⟩ := Kd.at_int HL.out (at_ : Int) (by omega) (by omega)
          obtain ⟨ad2, e2, _⟩ := Kd.at_int HF.out (at_ : Int) (by omega) (by omega)
          subst e0
          subst e2
          clear hpc hgd x1 x2 ha hrest hec
          have hlp : ((l.drop at_).take (c - at_)).length = c - at_ := by rw [List.length_take, List.length_drop]; omega
          have HLP := Lib.hid hlp
          have HS1 := Aside0.mk (sub_C (Kd.C_below HL.out hb) at_ c c0 (by omega) hcl' hc0)
          have hf2 := HF.out
          have hfl := forms_length l
          rw [← hfl] at hf2
          have HS2 := Aside0.mk (sub_C (Kd.C_below hf2 hb) at_ c c2 (by omega) (by omega) (by omega))
          have HS1' := Aside0.mk (show Kd.C (Kd.int .i64) wr (some (ad0.add at_)) (c - at_) ((l.drop at_).take (c - at_)) from by have := HS1.out; rw [if_neg (by omega)] at this; exact this)
          have HS2' := Aside0.mk (show Kd.C (Kd.int .i64) wr (some (ad2.add at_)) (c - at_) (((forms l).drop at_).take (c - at_)) from by have := HS2.out; rw [if_neg (by omega)] at this; exact this)
          have HLF := Lib.hid (forms_length ((l.drop at_).take (c - at_)))
          clear hf2 hfl hlp
          go_wp2
          go_region_held3 (fun w' => w'.cell? ⟨g3, k * 2 + 1, none⟩ = some (.int .i64 (c : Int))) (go_keep) (first | (go_at_call 11; refine (forms_call' _ (c - at_) (c0 - at_) ((l.drop at_).take (c - at_)) HLP.out _ (by first | exact HS1.out | exact HS1'.out) (by omega) (by omega)).mono ?_; rintro e w4 ⟨A4, c4, rfl, hc4, hC4, hb4⟩; have y4 := pw_cell_below hb4 (by exact y2)) | (go_at_call 10; refine (ints_same' _ _ (c - at_) c4 (c2 - at_) (forms ((l.drop at_).take (c - at_))) (((forms l).drop at_).take (c - at_)) (HLF.out.trans HLP.out) HPF.out.symm _ (by exact hC4) hc4 (by first | exact Kd.C_below (Kd.C_drew HS2'.out) hb4 | exact Kd.C_below (Kd.C_drew HS2.out) hb4) (by omega) (by omega)).mono ?_; rintro e w5 ⟨rfl, ⟨n5, rfl⟩⟩))
          go_wp2
          go_roundw
          case rel => exact ⟨k + 1, c, by omega, by go_num, rfl, ⟨HR.out⟩, ⟨HE.out.symm⟩, pw_below_drewN (below_step (below_drew1 hb) hb4) n5⟩
          case measure => simp [intOf]; omega
        · have hch' := HCH.out
          rw [List.drop_eq_nil_of_le (by omega)] at hch'
          have hz0 : at_ = l.length := hch'
          have HZ0 := Lib.hid hz0
          have db : ((at_ : Int) == (l.length : Int)) = true := by rw [beq_iff_eq]; omega
          clear hch' hz0
          go_wp2
          go_ret
          exact ⟨rfl, below_step HB.out hb⟩
  · have hd : decide ((200 : Int) < (l.length : Int)) = true := by simp; omega
    go_enter Tryd.func6, Tryd.ntmps6
    go_wp2_with fail
    refine (alive_any _ hT h0).mono ?_
    rintro e w1 ⟨rfl, hb1⟩
    go_wp2
    go_ret
    exact ⟨rfl, hb1⟩
end Go.Proofs.YtdaeombjdagnbaaDoor
