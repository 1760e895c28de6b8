/- What the call of the reference's Long does. Conditions: the list's numbers are of their kind, at most 1000 of them. -/
import Derived.Test.YtloidjfcelbpmaaDoorBlock
namespace Go.Proofs.YtloidjfcelbpmaaDoor
open Go.RowKit Go.Proofs.YtloidjfcelbpmaaDoorW.PrintWords Go.Proofs.YtloidjfcelbpmaaDoorW.PrintLast Go.Proofs.YtloidjfcelbpmaaDoorW.PrintMore
open PHangulParts

theorem kat_drop (l : List Int) (p i : Nat) : kat (l.drop p) i = kat l (p + i) := by
  unfold kat
  by_cases h : p + i < l.length
  · rw [if_pos h, if_pos (by rw [List.length_drop]; omega)]
    simp only [rd, Int.toNat_natCast, List.getD_eq_getElem?_getD, List.getElem?_drop]
  · rw [if_neg h, if_neg (by rw [List.length_drop]; omega)]
/-- The three kinds, as far as they are told. -/
def three (l : List Int) (p k : Nat) : Array Value := #[.int .i64 (if 0 < k then kat l p else 0), .int .i64 (if 1 < k then kat l (p + 1) else 0), .int .i64 (if 2 < k then kat l (p + 2) else 0)]
theorem three_put (l : List Int) (p k : Nat) (hin : p + k < l.length) : (three l p k).setIfInBounds k (.int .i64 (kind (rd l ((p + k : Nat) : Int)))) = three l p (k + 1) := by
  have hv : kind (rd l ((p + k : Nat) : Int)) = kat l (p + k) := by unfold kat; rw [if_pos hin]
  rw [hv]
  match k with
  | 0 => simp [three]
  | 1 => simp [three]
  | 2 => simp [three]
  | k + 3 => simp [three]
theorem three_skip (l : List Int) (p k : Nat) (hin : ¬ p + k < l.length) : three l p k = three l p (k + 1) := by
  have hv : kat l (p + k) = 0 := by unfold kat; rw [if_neg hin]
  match k, hv with
  | 0, hv => simp at hv; simp [three, hv]
  | 1, hv => simp [three, hv]
  | 2, hv => simp [three, hv]
  | k + 3, _ => simp [three]
theorem ref_kind_call (c : Int) (w : World) : Calls Tryd.prog 11 #[.int .i32 c] w fun e w' => e = .returned (.int .i64 (kind c)) ∧ Drawn0 w w' := reedpenref22_Kind.calls 3 c _ w (ref_kind_f c 3 (Nat.le_refl _))

set_option maxHeartbeats 1600000 in
set_option maxRecDepth 100000 in
theorem long_any (A : Option Addr) (c : Nat) (l : List Int) (hl : l.length ≤ 1000) (p : Nat) (hp : p < l.length) (w : World) (hr : Kd.C (Kd.int .i32) w A l.length l) :
    Calls Tryd.prog 22 #[.slice A l.length c, .int .i64 (p : Int)] w fun e w' => e = .returned (.int .i64 (blk (l.drop p))) ∧ Below w.heap.size w w' := by
  have HR := Aside0.mk hr
  go_enter Tryd.func22, Tryd.ntmps22
  go_wp2
  go_loopw [6] (fun i wr => ∃ (k : Nat) (z : Int), k ≤ 3 ∧ z = k ∧ i = .int .i64 z ∧ wr.heap[w.heap.size]? = some (.cells (three l p k) 43 (0, 0)) ∧ Below w.heap.size w wr) (fun i _ => 3 - (intOf i).toNat)
  case atStart =>
    exact ⟨0, 0, by omega, rfl, rfl, by simpa [three] using heap_alloc_new w (.cells #[.int .i64 0, .int .i64 0, .int .i64 0] 43), (Below.refl _ w).alloc (Nat.le_refl _) _⟩
  case round =>
    obtain ⟨k, z, hk, hz, rfl, hbk, hb⟩ := hrel
    have HC := Aside0.mk (Kd.C_below HR.out hb)
    rcases (show k = 0 ∨ k = 1 ∨ k = 2 ∨ k = 3 by omega) with rfl | rfl | rfl | rfl
    · obtain rfl : z = 0 := by omega
      have hc0 : wr.cell? ⟨w.heap.size, 0, none⟩ = some (.int .i64 0) := blk_cell hbk 0
      have hf0 : wr.frozen? ⟨w.heap.size, 0, none⟩ = false := blk_frozen hbk 0
      clear hz
      by_cases hin : p + 0 < l.length
      · obtain ⟨ad, hA, hc⟩ := Kd.at_int HC.out ((p + 0 : Nat) : Int) (by omega) (by omega)
        subst hA
        rw [Int.toNat_natCast] at hc
        have hput := three_put l p 0 hin
        obtain ⟨x, hx⟩ : ∃ x, x = rd l ((p + 0 : Nat) : Int) := ⟨_, rfl⟩
        rw [← hx] at hc hput
        have HPUT := Aside0.mk (blk_put hbk 0 (.int .i64 (kind x)) hput)
        clear hput hbk hx
        have b1 : (p : Int) + 0 < (l.length : Int) := by omega
        have hc' : wr.cell? (ad.add p) = some (.int .i32 x) := hc
        clear hc
        go_wp2_with (go_at_call 11; refine (ref_kind_call _ _).mono ?_; rintro e w' ⟨rfl, ⟨n1, rfl⟩⟩)
        go_roundw
        case rel => exact ⟨1, 1, by omega, rfl, rfl, HPUT.out, (pw_below_drewN hb _).setCell (Nat.le_refl _) _⟩
        case measure => simp [intOf]
      · exact absurd hp (by omega)
    · obtain rfl : z = 1 := by omega
      have hc0 : wr.cell? ⟨w.heap.size, 1, none⟩ = some (.int .i64 0) := blk_cell hbk 1
      have hf0 : wr.frozen? ⟨w.heap.size, 1, none⟩ = false := blk_frozen hbk 1
      clear hz
      by_cases hin : p + 1 < l.length
      · obtain ⟨ad, hA, hc⟩ := Kd.at_int HC.out ((p + 1 : Nat) : Int) (by omega) (by omega)
        subst hA
        rw [Int.toNat_natCast] at hc
        have hput := three_put l p 1 hin
        obtain ⟨x, hx⟩ : ∃ x, x = rd l ((p + 1 : Nat) : Int) := ⟨_, rfl⟩
        rw [← hx] at hc hput
        have HPUT := Aside0.mk (blk_put hbk 1 (.int .i64 (kind x)) hput)
        clear hput hbk hx
        have b1 : (p : Int) + 1 < (l.length : Int) := by omega
        have hc' : wr.cell? ⟨ad.block, ad.off + (p + 1), none⟩ = some (.int .i32 x) := by simpa [Addr.add] using hc
        clear hc
        go_wp2_with (go_at_call 11; refine (ref_kind_call _ _).mono ?_; rintro e w' ⟨rfl, ⟨n1, rfl⟩⟩)
        go_roundw
        case rel => exact ⟨2, 2, by omega, rfl, rfl, HPUT.out, (pw_below_drewN hb _).setCell (Nat.le_refl _) _⟩
        case measure => simp [intOf]
      · have HSK := Aside0.mk (three_skip l p 1 hin)
        have b1 : ¬ (p : Int) + 1 < (l.length : Int) := by omega
        go_wp2
        go_roundw
        case rel => exact ⟨2, 2, by omega, rfl, rfl, by rw [← HSK.out]; exact hbk, hb⟩
        case measure => simp [intOf]
    · obtain rfl : z = 2 := by omega
      have hc0 : wr.cell? ⟨w.heap.size, 2, none⟩ = some (.int .i64 0) := blk_cell hbk 2
      have hf0 : wr.frozen? ⟨w.heap.size, 2, none⟩ = false := blk_frozen hbk 2
      clear hz
      by_cases hin : p + 2 < l.length
      · obtain ⟨ad, hA, hc⟩ := Kd.at_int HC.out ((p + 2 : Nat) : Int) (by omega) (by omega)
        subst hA
        rw [Int.toNat_natCast] at hc
        have hput := three_put l p 2 hin
        obtain ⟨x, hx⟩ : ∃ x, x = rd l ((p + 2 : Nat) : Int) := ⟨_, rfl⟩
        rw [← hx] at hc hput
        have HPUT := Aside0.mk (blk_put hbk 2 (.int .i64 (kind x)) hput)
        clear hput hbk hx
        have b1 : (p : Int) + 2 < (l.length : Int) := by omega
        have hc' : wr.cell? ⟨ad.block, ad.off + (p + 2), none⟩ = some (.int .i32 x) := by simpa [Addr.add] using hc
        clear hc
        go_wp2_with (go_at_call 11; refine (ref_kind_call _ _).mono ?_; rintro e w' ⟨rfl, ⟨n1, rfl⟩⟩)
        go_roundw
        case rel => exact ⟨3, 3, by omega, rfl, rfl, HPUT.out, (pw_below_drewN hb _).setCell (Nat.le_refl _) _⟩
        case measure => simp [intOf]
      · have HSK := Aside0.mk (three_skip l p 2 hin)
        have b1 : ¬ (p : Int) + 2 < (l.length : Int) := by omega
        go_wp2
        go_roundw
        case rel => exact ⟨3, 3, by omega, rfl, rfl, by rw [← HSK.out]; exact hbk, hb⟩
        case measure => simp [intOf]
    · obtain rfl : z = 3 := by omega
      clear hz
      have c0 : wr.cell? ⟨w.heap.size, 0, none⟩ = some (.int .i64 (kat l p)) := blk_cell hbk 0
      have c1 : wr.cell? ⟨w.heap.size, 1, none⟩ = some (.int .i64 (kat l (p + 1))) := blk_cell hbk 1
      have c2 : wr.cell? ⟨w.heap.size, 2, none⟩ = some (.int .i64 (kat l (p + 2))) := blk_cell hbk 2
      clear hbk
      have hB : blk (l.drop p) = if kat l p = 1 ∧ kat l (p + 1) = 2 then (if kat l (p + 2) = 3 then 3 else 2) else if kat l p = 4 ∧ kat l (p + 1) = 3 then 2 else 1 := by
        unfold blk
        simp only [kat_drop, Nat.add_zero]
      obtain ⟨x0, h0⟩ : ∃ x, x = kat l p := ⟨_, rfl⟩
      obtain ⟨x1, h1⟩ : ∃ x, x = kat l (p + 1) := ⟨_, rfl⟩
      obtain ⟨x2, h2⟩ : ∃ x, x = kat l (p + 2) := ⟨_, rfl⟩
      rw [← h0] at c0 hB
      rw [← h1] at c1 hB
      rw [← h2] at c2 hB
      clear h0 h1 h2
      by_cases k0 : x0 = 1
      · subst k0
        by_cases k1 : x1 = 2
        · subst k1
          by_cases k2 : x2 = 3
          · subst k2
            have HB := Lib.hid (hB.trans (by rfl : _ = 3))
            clear hB
            go_wp2
            go_ret
            exact ⟨by rw [HB.out]; rfl, hb⟩
          · have HB := Lib.hid (hB.trans (by rw [if_pos ⟨rfl, rfl⟩, if_neg k2] : _ = 2))
            have b2 : (x2 == 3) = false := by simp [k2]
            clear hB k2
            go_wp2
            go_ret
            exact ⟨by rw [HB.out]; rfl, hb⟩
        · have HB := Lib.hid (hB.trans (by rw [if_neg (fun h => k1 h.2), if_neg (fun h => by omega)] : _ = 1))
          have b1 : (x1 == 2) = false := by simp [k1]
          clear hB k1
          go_wp2
          go_ret
          exact ⟨by rw [HB.out]; rfl, hb⟩
      · by_cases k4 : x0 = 4
        · subst k4
          by_cases k3 : x1 = 3
          · subst k3
            have HB := Lib.hid (hB.trans (by rfl : _ = 2))
            clear hB k0
            go_wp2
            go_ret
            exact ⟨by rw [HB.out]; rfl, hb⟩
          · have HB := Lib.hid (hB.trans (by rw [if_neg (fun h => k0 h.1), if_neg (fun h => k3 h.2)] : _ = 1))
            have b3 : (x1 == 3) = false := by simp [k3]
            clear hB k0 k3
            go_wp2
            go_ret
            exact ⟨by rw [HB.out]; rfl, hb⟩
        · have HB := Lib.hid (hB.trans (by rw [if_neg (fun h => k0 h.1), if_neg (fun h => k4 h.1)] : _ = 1))
          have b1 : (x0 == 1) = false := by simp [k0]
          have b4 : (x0 == 4) = false := by simp [k4]
          clear hB k0 k4
          go_wp2
          go_ret
          exact ⟨by rw [HB.out]; rfl, hb⟩
end Go.Proofs.YtloidjfcelbpmaaDoor
