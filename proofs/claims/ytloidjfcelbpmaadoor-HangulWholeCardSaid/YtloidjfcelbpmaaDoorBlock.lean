/- What the calls of block and of its closure do. Conditions: the table's block; the list's numbers are of their kind, at most 1000 of them. -/
import Derived.Test.YtloidjfcelbpmaaDoorMath
namespace Go.Proofs.YtloidjfcelbpmaaDoor
open Go.RowKit Go.Proofs.YtloidjfcelbpmaaDoorW.PrintWords Go.Proofs.YtloidjfcelbpmaaDoorW.PrintLast Go.Proofs.YtloidjfcelbpmaaDoorW.PrintMore
open PHangulParts

/-- The kind of the code at a place, 0 behind the end. -/
def kat (l : List Int) (i : Nat) : Int := if i < l.length then kind (rd l (i : Int)) else 0
/-- How many codes the block has with which a text begins. -/
def blk (l : List Int) : Nat :=
  if kat l 0 = 1 ∧ kat l 1 = 2 then (if kat l 2 = 3 then 3 else 2) else if kat l 0 = 4 ∧ kat l 1 = 3 then 2 else 1
theorem kat_lt (l : List Int) (i : Nat) (h : kat l i ≠ 0) : i < l.length := by
  unfold kat at h
  split at h
  · assumption
  · exact absurd rfl h
theorem blk_le (l : List Int) (h : 0 < l.length) : 1 ≤ blk l ∧ blk l ≤ 3 ∧ blk l ≤ l.length := by
  unfold blk
  split
  · rename_i h1
    have := kat_lt l 1 (by omega)
    split
    · have := kat_lt l 2 (by omega)
      omega
    · omega
  · split
    · rename_i h1
      have := kat_lt l 1 (by omega)
      omega
    · omega
def AllOk (l : List Int) : Prop := ∀ x ∈ l, ok32 x
theorem AllOk.at_ {l : List Int} (h : AllOk l) (i : Nat) (hi : i < l.length) : ok32 (rd l (i : Int)) := by
  apply h
  simp [rd, List.getD, hi]

structure St (A : Option Addr) (c : Nat) (l : List Int) (gb : Nat) (w0 W : World) : Prop where
  tab : Table W
  pos : 0 < w0.heap.size
  box : W.heap[gb]? = some (.cells #[.slice A l.length c] 22 (0, 0))
  rdC : Kd.C (Kd.int .i32) W A l.length l
  bel : Below w0.heap.size w0 W
theorem St.next {A : Option Addr} {c : Nat} {l : List Int} {gb : Nat} {w0 W W' : World} (h : St A c l gb w0 W) (hb : Below W.heap.size W W') : St A c l gb w0 W' :=
  ⟨h.tab.below (Nat.lt_of_lt_of_le h.pos h.bel.size) hb, h.pos, (hb.block gb (lt_of_block h.box)).trans h.box, Kd.C_below h.rdC hb, below_step h.bel hb⟩

set_option maxHeartbeats 1600000 in
set_option maxRecDepth 100000 in
theorem at_eq (A : Option Addr) (c : Nat) (l : List Int) (gb : Nat) (w0 : World) (hok : AllOk l) (_hl : l.length ≤ 1000) (i : Nat) (x v : Int) (hx : x = (i : Int)) (hv : kat l i = v) (W : World) (h : St A c l gb w0 W) :
    Calls Tryd.prog 23 #[.int .i64 x, .pointer (some ⟨gb, 0, none⟩)] W fun e w' => e = .returned (.int .i64 v) ∧ St A c l gb w0 w' := by
  subst hx
  have cB := cell_of_one h.box
  have HS := Aside0.mk h
  by_cases hi : i < l.length
  · have hd : decide (l.length ≤ i) = false := by simp; omega
    have HV := Lib.hid (show kind (rd l (i : Int)) = v by rw [← hv]; unfold kat; rw [if_pos hi])
    obtain ⟨ad, hA, hc⟩ := Kd.at_int h.rdC (i : Int) (by omega) (by omega)
    subst hA
    rw [Int.toNat_natCast] at hc
    have HK := Aside0.mk (hok.at_ i hi)
    clear hv h
    go_enter Tryd.func23, Tryd.ntmps23
    go_wp2_with (go_at_call 10; refine (kind_any _ HK.out.1 HK.out.2 _ HS.out.tab).mono ?_; rintro e w1 ⟨rfl, hb1⟩)
    go_ret
    exact ⟨by rw [HV.out]; rfl, HS.out.next (by assumption)⟩
  · have hd : decide (l.length ≤ i) = true := by simp; omega
    have HV := Lib.hid (show v = 0 by rw [← hv]; unfold kat; rw [if_neg hi])
    clear hv h
    go_enter Tryd.func23, Tryd.ntmps23
    go_wp2
    go_ret
    exact ⟨by rw [HV.out]; rfl, HS.out⟩

set_option maxHeartbeats 1600000 in
set_option maxRecDepth 100000 in
theorem block_any (A : Option Addr) (c : Nat) (l : List Int) (hok : AllOk l) (hl : l.length ≤ 1000) (w : World) (hT : Table w) (hr : Kd.C (Kd.int .i32) w A l.length l) :
    Calls Tryd.prog 21 #[.slice A l.length c] w fun e w' => e = .returned (.int .i64 (blk l)) ∧ Below w.heap.size w w' := by
  have hst : St A c l w.heap.size w (w.alloc (.cells #[.slice A l.length c] 22)) :=
    ⟨hT.below hT.pos ((Below.refl _ w).alloc (Nat.le_refl _) _), hT.pos, heap_alloc_new w _, Kd.C_alloc hr _, (Below.refl _ w).alloc (Nat.le_refl _) _⟩
  have HA := Aside0.mk (at_eq A c l w.heap.size w hok hl)
  by_cases k0 : kat l 0 = 1
  · by_cases k1 : kat l 1 = 2
    · by_cases k2 : kat l 2 = 3
      · have HB := Lib.hid (show blk l = 3 by unfold blk; rw [if_pos ⟨k0, k1⟩, if_pos k2])
        have K0 := Lib.hid k0
        have K1 := Lib.hid k1
        have K2 := Lib.hid k2
        clear k0 k1 k2
        go_enter Tryd.func21, Tryd.ntmps21
        go_wp2_with fail
        refine (HA.out 0 0 1 rfl K0.out _ hst).mono ?_
        rintro e w1 ⟨rfl, hst1⟩
        go_wp2_with fail
        refine (HA.out 1 1 2 rfl K1.out _ hst1).mono ?_
        rintro e w2 ⟨rfl, hst2⟩
        go_wp2_with fail
        refine (HA.out 2 2 3 rfl K2.out _ hst2).mono ?_
        rintro e w3 ⟨rfl, hst3⟩
        go_wp2_with fail
        go_ret
        exact ⟨by rw [HB.out]; rfl, hst3.bel⟩
      · have HB := Lib.hid (show blk l = 2 by unfold blk; rw [if_pos ⟨k0, k1⟩, if_neg k2])
        have K0 := Lib.hid k0
        have K1 := Lib.hid k1
        obtain ⟨v, hv⟩ : ∃ v, kat l 2 = v := ⟨_, rfl⟩
        have K2 := Lib.hid hv
        rw [hv] at k2
        have b2 : (v == 3) = false := by simp [k2]
        clear k0 k1 hv k2
        go_enter Tryd.func21, Tryd.ntmps21
        go_wp2_with fail
        refine (HA.out 0 0 1 rfl K0.out _ hst).mono ?_
        rintro e w1 ⟨rfl, hst1⟩
        go_wp2_with fail
        refine (HA.out 1 1 2 rfl K1.out _ hst1).mono ?_
        rintro e w2 ⟨rfl, hst2⟩
        go_wp2_with fail
        refine (HA.out 2 2 v rfl K2.out _ hst2).mono ?_
        rintro e w3 ⟨rfl, hst3⟩
        go_wp2_with fail
        go_ret
        exact ⟨by rw [HB.out]; rfl, hst3.bel⟩
    · have HB := Lib.hid (show blk l = 1 by unfold blk; rw [if_neg (fun h => k1 h.2), if_neg (fun h => by omega)])
      have K0 := Lib.hid k0
      obtain ⟨v, hv⟩ : ∃ v, kat l 1 = v := ⟨_, rfl⟩
      have K1 := Lib.hid hv
      rw [hv] at k1
      have b1 : (v != 2) = true := by simp [k1]
      clear k0 hv k1
      go_enter Tryd.func21, Tryd.ntmps21
      go_wp2_with fail
      refine (HA.out 0 0 1 rfl K0.out _ hst).mono ?_
      rintro e w1 ⟨rfl, hst1⟩
      go_wp2_with fail
      refine (HA.out 1 1 v rfl K1.out _ hst1).mono ?_
      rintro e w2 ⟨rfl, hst2⟩
      go_wp2_with fail
      go_ret
      exact ⟨by rw [HB.out]; rfl, hst2.bel⟩
  · by_cases k4 : kat l 0 = 4
    · obtain ⟨v, hv⟩ : ∃ v, kat l 1 = v := ⟨_, rfl⟩
      have K0 := Lib.hid k4
      have K1 := Lib.hid hv
      by_cases k3 : v = 3
      · have HB := Lib.hid (show blk l = 2 by unfold blk; rw [if_neg (fun h => k0 h.1), if_pos ⟨k4, by rw [hv, k3]⟩])
        have b3 : (v == 3) = true := by simp [k3]
        clear k0 k4 hv k3
        go_enter Tryd.func21, Tryd.ntmps21
        go_wp2_with fail
        refine (HA.out 0 0 4 rfl K0.out _ hst).mono ?_
        rintro e w1 ⟨rfl, hst1⟩
        go_wp2_with fail
        refine (HA.out 0 0 4 rfl K0.out _ hst1).mono ?_
        rintro e w2 ⟨rfl, hst2⟩
        go_wp2_with fail
        refine (HA.out 1 1 v rfl K1.out _ hst2).mono ?_
        rintro e w3 ⟨rfl, hst3⟩
        go_wp2_with fail
        go_ret
        exact ⟨by rw [HB.out]; rfl, hst3.bel⟩
      · have HB := Lib.hid (show blk l = 1 by unfold blk; rw [if_neg (fun h => k0 h.1), if_neg (fun h => k3 (by rw [← hv]; exact h.2))])
        have b3 : (v == 3) = false := by simp [k3]
        clear k0 k4 hv k3
        go_enter Tryd.func21, Tryd.ntmps21
        go_wp2_with fail
        refine (HA.out 0 0 4 rfl K0.out _ hst).mono ?_
        rintro e w1 ⟨rfl, hst1⟩
        go_wp2_with fail
        refine (HA.out 0 0 4 rfl K0.out _ hst1).mono ?_
        rintro e w2 ⟨rfl, hst2⟩
        go_wp2_with fail
        refine (HA.out 1 1 v rfl K1.out _ hst2).mono ?_
        rintro e w3 ⟨rfl, hst3⟩
        go_wp2_with fail
        go_ret
        exact ⟨by rw [HB.out]; rfl, hst3.bel⟩
    · obtain ⟨v, hv⟩ : ∃ v, kat l 0 = v := ⟨_, rfl⟩
      have K0 := Lib.hid hv
      have HB := Lib.hid (show blk l = 1 by unfold blk; rw [if_neg (fun h => k0 h.1), if_neg (fun h => k4 h.1)])
      rw [hv] at k0 k4
      have b1 : (v == 1) = false := by simp [k0]
      have b4 : (v != 4) = true := by simp [k4]
      clear k0 k4 hv
      go_enter Tryd.func21, Tryd.ntmps21
      go_wp2_with fail
      refine (HA.out 0 0 v rfl K0.out _ hst).mono ?_
      rintro e w1 ⟨rfl, hst1⟩
      go_wp2_with fail
      refine (HA.out 0 0 v rfl K0.out _ hst1).mono ?_
      rintro e w2 ⟨rfl, hst2⟩
      go_wp2_with fail
      go_ret
      exact ⟨by rw [HB.out]; rfl, hst2.bel⟩
end Go.Proofs.YtloidjfcelbpmaaDoor
