/- The document's examples answer true: what the call of alive does. Condition: the table's block. -/
import Derived.Test.YtloidjfcelbpmaaDoorRefRoles
import Derived.Deep.RegionHeld3
namespace Go.Proofs.YtloidjfcelbpmaaDoor
open Go.RowKit Go.Proofs.YtloidjfcelbpmaaDoorW.PrintWords Go.Proofs.YtloidjfcelbpmaaDoorW.PrintLast Go.Proofs.YtloidjfcelbpmaaDoorW.PrintMore
open PHangulParts

/-! Ints, Codes -/
theorem ints_l0 (l m : List Int) (hl : l.length ≤ 17592186044416) (hm : l.length = m.length) (d : Nat) : ∀ (k i : Nat), l.length = i + d → d + 1 ≤ k →
    reedpenref01_Ints.l0 k l m (i : Int) = some (decide (l.drop i = m.drop i)) := by
  have rd_drop : ∀ (l : List Int) (i : Nat), i < l.length → l.drop i = rd l i :: l.drop (i + 1) := fun l i h => by
    rw [List.drop_eq_getElem_cons h]
    simp [rd, List.getD, h]
  induction d with
  | zero =>
    intro k i hi hk
    obtain ⟨k, rfl⟩ : ∃ m, k = m + 1 := ⟨k - 1, by omega⟩
    simp only [reedpenref01_Ints.l0]
    rw [if_neg (by omega), List.drop_eq_nil_of_le (by omega), List.drop_eq_nil_of_le (by omega)]
    simp
  | succ d ih =>
    intro k i hi hk
    obtain ⟨k, rfl⟩ : ∃ m, k = m + 1 := ⟨k - 1, by omega⟩
    simp only [reedpenref01_Ints.l0]
    rw [if_pos (by omega), if_pos (by omega), if_pos (by omega), w64 (by omega) (by omega), show (i : Int) + 1 = ((i + 1 : Nat) : Int) by omega, ih k (i + 1) (by omega) (by omega), rd_drop l i (by omega), rd_drop m i (by omega)]
    by_cases h : rd l i = rd m i
    · rw [if_pos h, h]
      simp
    · rw [if_neg h]
      simp [h]
theorem ints_f (l m : List Int) (hl : l.length ≤ 17592186044416) (k : Nat) (hk : l.length + 1 ≤ k) : reedpenref01_Ints.f k l m = some (decide (l = m)) := by
  unfold reedpenref01_Ints.f
  by_cases h : (l.length : Int) = m.length
  · rw [if_pos h]
    exact ints_l0 l m hl (by omega) l.length k 0 (by omega) hk
  · rw [if_neg h]
    have : l ≠ m := fun e => h (by rw [e])
    simp [this]
theorem codes_l0 (l m : List Int) (hl : l.length ≤ 17592186044416) (hm : l.length = m.length) (d : Nat) : ∀ (k i : Nat), l.length = i + d → d + 1 ≤ k →
    reedpenref21_Codes.l0 k l m (i : Int) = some (decide (l.drop i = m.drop i)) := by
  have rd_drop : ∀ (l : List Int) (i : Nat), i < l.length → l.drop i = rd l i :: l.drop (i + 1) := fun l i h => by
    rw [List.drop_eq_getElem_cons h]
    simp [rd, List.getD, h]
  induction d with
  | zero =>
    intro k i hi hk
    obtain ⟨k, rfl⟩ : ∃ m, k = m + 1 := ⟨k - 1, by omega⟩
    simp only [reedpenref21_Codes.l0]
    rw [if_neg (by omega), List.drop_eq_nil_of_le (by omega), List.drop_eq_nil_of_le (by omega)]
    simp
  | succ d ih =>
    intro k i hi hk
    obtain ⟨k, rfl⟩ : ∃ m, k = m + 1 := ⟨k - 1, by omega⟩
    simp only [reedpenref21_Codes.l0]
    rw [if_pos (by omega), if_pos (by omega), if_pos (by omega), w64 (by omega) (by omega), show (i : Int) + 1 = ((i + 1 : Nat) : Int) by omega, ih k (i + 1) (by omega) (by omega), rd_drop l i (by omega), rd_drop m i (by omega)]
    by_cases h : rd l i = rd m i
    · rw [if_pos h, h]
      simp
    · rw [if_neg h]
      simp [h]
theorem codes_f (l m : List Int) (hl : l.length ≤ 17592186044416) (k : Nat) (hk : l.length + 1 ≤ k) : reedpenref21_Codes.f k l m = some (decide (l = m)) := by
  unfold reedpenref21_Codes.f
  by_cases h : (l.length : Int) = m.length
  · rw [if_pos h]
    exact codes_l0 l m hl (by omega) l.length k 0 (by omega) hk
  · rw [if_neg h]
    have : l ≠ m := fun e => h (by rw [e])
    simp [this]
theorem ints_same (A0 A1 : Option Addr) (n c0 c1 : Nat) (l m : List Int) (hn : l.length = n) (hm : m = l) (w : World) (hr0 : Kd.C (Kd.int .i64) w A0 n l) (hc0 : n ≤ c0) (hr1 : Kd.C (Kd.int .i64) w A1 n m) (hc1 : n ≤ c1) (hl : n ≤ 1000) :
    Calls Tryd.prog 17 #[.slice A0 n c0, .slice A1 n c1] w fun e w' => e = .returned (.bool true) ∧ Drawn0 w w' := by
  subst hn
  subst hm
  exact reedpenref01_Ints.calls _ A0 c0 m A1 c1 m true w hr0 hc0 hr1 hc1 (by simpa using ints_f m m (by omega) _ (Nat.le_refl _))
theorem codes_same (A0 A1 : Option Addr) (n c0 c1 : Nat) (l m : List Int) (hn : l.length = n) (hm : m = l) (w : World) (hr0 : Kd.C (Kd.int .i32) w A0 n l) (hc0 : n ≤ c0) (hr1 : Kd.C (Kd.int .i32) w A1 n m) (hc1 : n ≤ c1) (hl : n ≤ 1000) :
    Calls Tryd.prog 12 #[.slice A0 n c0, .slice A1 n c1] w fun e w' => e = .returned (.bool true) ∧ Drawn0 w w' := by
  subst hn
  subst hm
  exact reedpenref21_Codes.calls _ A0 c0 m A1 c1 m true w hr0 hc0 hr1 hc1 (by simpa using codes_f m m (by omega) _ (Nat.le_refl _))

/-! Calls, their results laid open -/
theorem parts_call (c : Int) (n : Nat) (hn : (parts c).length = n) (w : World) :
    Calls Tryd.prog 13 #[.int .i32 c] w fun e w' => ∃ A k, e = .returned (.slice A n k) ∧ n ≤ k ∧ Kd.C (Kd.int .i32) w' A n (parts c) ∧ Below w.heap.size w w' := by
  subst hn
  exact (hangul_Parts.calls c _ w (parts_f c)).mono fun e w' ⟨v, he, ho, hb⟩ => by
    obtain ⟨A, k, hv, hc, hC⟩ := Kd.R_reads ho
    exact ⟨A, k, he.trans (congrArg _ hv), hc, hC, hb⟩
theorem ref_parts_call (c : Int) (n : Nat) (hn : (parts c).length = n) (hc : ok32 c) (w : World) :
    Calls Tryd.prog 14 #[.int .i32 c] w fun e w' => ∃ A k, e = .returned (.slice A n k) ∧ n ≤ k ∧ Kd.C (Kd.int .i32) w' A n (parts c) ∧ Below w.heap.size w w' := by
  subst hn
  exact (reedpenref22_Parts.calls 3 c _ w (ref_parts_f c hc 3 (Nat.le_refl _))).mono fun e w' ⟨v, he, ho, hb⟩ => by
    obtain ⟨A, k, hv, hc, hC⟩ := Kd.R_reads ho
    exact ⟨A, k, he.trans (congrArg _ hv), hc, hC, hb⟩
theorem whole_call (A : Option Addr) (n c : Nat) (l : List Int) (hn : l.length = n) (x : Int) (ok : Bool) (hx : whole l = (x, ok)) (w : World) (hr : Kd.C (Kd.int .i32) w A n l) (hc : n ≤ c) :
    Calls Tryd.prog 8 #[.slice A n c] w fun e w' => e = .returned (.tuple #[.int .i32 x, .bool ok]) ∧ Drawn0 w w' := by
  subst hn
  exact hangul_Whole.calls 2 A c l x ok w hr hc (by rw [whole_f l 2 (Nat.le_refl _), hx])
theorem ref_whole_call (A : Option Addr) (n c : Nat) (l : List Int) (hn : l.length = n) (hok : AllOk l) (x : Int) (ok : Bool) (hx : whole l = (x, ok)) (w : World) (hr : Kd.C (Kd.int .i32) w A n l) (hc : n ≤ c) :
    Calls Tryd.prog 9 #[.slice A n c] w fun e w' => e = .returned (.tuple #[.int .i32 x, .bool ok]) ∧ Drawn0 w w' := by
  subst hn
  exact reedpenref22_Whole.calls 2 A c l x ok w hr hc (by rw [ref_whole_f l hok 2 (Nat.le_refl _), hx])
theorem roles_call (A : Option Addr) (n c : Nat) (l : List Int) (hn : l.length = n) (r : List Int) (m : Nat) (hr : rolesTo l (cutFrom l 0) = r) (hm : r.length = m) (hc : n ≤ c) (hok : AllOk l) (hl : n ≤ 300) (w : World) (hT : Table w) (hC : Kd.C (Kd.int .i32) w A n l) :
    Calls Tryd.prog 18 #[.slice A n c] w fun e w' => ∃ A' k, e = .returned (.slice A' m k) ∧ m ≤ k ∧ Kd.C (Kd.int .i64) w' A' m r ∧ Below w.heap.size w w' := by
  subst hn
  subst hr
  subst hm
  exact (roles_any A c l hc hok hl w hT hC).mono fun e w' ⟨v, he, ho, hb⟩ => by
    obtain ⟨A', k, hv, hR⟩ := own_reads ho
    refine ⟨A', k, he.trans (congrArg _ hv), ?_, Kd.C_of_reads (enc := Value.int .i64) (d := (0 : Int)) hR, hb⟩
    rw [hv] at ho
    exact own_cap ho
theorem C_lit (W : World) (e : TypeId) (k : IntKind) (xs : List Int) (hm : xs.length ≤ 9223372036854775807) : Kd.C (Kd.int k) (W.alloc (.cells (nums k xs).toArray e)) (some ⟨W.heap.size, 0, none⟩) xs.length xs :=
  Kd.C_of_reads (enc := Value.int k) (d := (0 : Int)) (own_reads' (own_lit W W.heap.size e k xs (Nat.le_refl _) hm))
theorem cut_call (A : Option Addr) (n c : Nat) (l : List Int) (hn : l.length = n) (hc : n ≤ c) (hok : AllOk l) (hl : n ≤ 1000) (o : List (Int × Int)) (m : Nat) (ho : cutFrom l 0 = o) (hm : o.length = m) (h0 : 0 < m) (w : World) (hT : Table w) (hr : Kd.C (Kd.int .i32) w A n l) :
    Calls Tryd.prog 15 #[.slice A n c] w fun e w' => ∃ g k, e = .returned (.slice (some ⟨g, 0, none⟩) m k) ∧ (∀ i : Nat, i < m → w'.cell? ⟨g, i * 2, none⟩ = some (.int .i64 (o.getD i (0, 0)).1) ∧ w'.cell? ⟨g, i * 2 + 1, none⟩ = some (.int .i64 (o.getD i (0, 0)).2)) ∧ Below w.heap.size w w' := by
  subst hn
  subst ho
  subst hm
  exact (cut_any A c l hc hok hl w hT hr).mono fun e w' ⟨v, he, ho, hb⟩ => by
    obtain ⟨g, k, hv, _, hx⟩ := pairs_open ho rfl h0
    exact ⟨g, k, he.trans (congrArg _ hv), hx, hb⟩
theorem Table.alloc {w : World} (h : Table w) (o : Obj) : Table (w.alloc o) := h.below h.pos ((Below.refl _ w).alloc (Nat.le_refl _) o)
theorem Table.drewN {w : World} (h : Table w) (n : Nat) : Table (w.drewN n) := h
theorem Table.drew {w : World} (h : Table w) : Table w.drew := h
def l4 : List Int := [4352, 4449, 4520, 4352]
theorem ok4 : AllOk l4 := by
  intro x hx
  simp [l4] at hx
  unfold ok32
  omega
theorem C_four (W : World) : Kd.C (Kd.int .i32) (W.alloc (.cells #[.int .i32 4352, .int .i32 4449, .int .i32 4520, .int .i32 4352] 21)) (some ⟨W.heap.size, 0, none⟩) 4 l4 := by
  simpa [nums, l4] using C_lit W 21 .i32 l4 (by simp [l4])
theorem C_roles (W : World) : Kd.C (Kd.int .i64) (W.alloc (.cells #[.int .i64 1, .int .i64 2, .int .i64 3, .int .i64 0] 3)) (some ⟨W.heap.size, 0, none⟩) 4 [1, 2, 3, 0] := by
  simpa [nums] using C_lit W 3 .i64 [1, 2, 3, 0] (by simp)
theorem C_roles' {W W' : World} {n : Nat} (hb : Below ((W.drewN n).alloc (.cells #[.int .i64 1, .int .i64 2, .int .i64 3, .int .i64 0] 3)).heap.size ((W.drewN n).alloc (.cells #[.int .i64 1, .int .i64 2, .int .i64 3, .int .i64 0] 3)) W') : Kd.C (Kd.int .i64) W' (some ⟨W.heap.size, 0, none⟩) 4 [1, 2, 3, 0] :=
  Kd.C_below (C_roles (W.drewN n)) hb
theorem C_three (W : World) : Kd.C (Kd.int .i32) (W.alloc (.cells #[.int .i32 4352, .int .i32 4449, .int .i32 4520, .int .i32 4352] 21)) (some ⟨W.heap.size, 0, none⟩) 3 [4352, 4449, 4520] :=
  Kd.C_take (C_four W : Kd.C (Kd.int .i32) _ _ l4.length l4) (m := 3) (by decide)

set_option maxHeartbeats 3200000 in
set_option maxRecDepth 100000 in
theorem alive_any (w : World) (hT : Table w) : Calls Tryd.prog 7 #[] w fun e w' => e = .returned (.bool true) ∧ Below w.heap.size w w' := by
  have h0 := hT.pos
  have hb0 : Below w.heap.size w (w.alloc (.cells #[.int .i32 4352, .int .i32 4449, .int .i32 4520, .int .i32 4352] 21)) := (Below.refl _ w).alloc (Nat.le_refl _) _
  have HT0 := Aside0.mk (hT.below h0 hb0)
  have HC4 := Aside0.mk (C_four w)
  have HC3 := Aside0.mk (C_three w)
  go_enter Tryd.func7, Tryd.ntmps7
  go_wp2_with (first | (go_at_call 8; refine (whole_call _ 3 4 [4352, 4449, 4520] rfl 44033 true (by decide) _ (by exact HC3.out) (by decide)).mono ?_; rintro e w' ⟨rfl, ⟨n1, rfl⟩⟩))
  refine (cut_call _ 4 4 l4 rfl (by decide) ok4 (by decide) [(0, 3), (3, 4)] 2 (by decide) rfl (by decide) _ (by exact HT0.out) (by exact HC4.out)).mono ?_
  rintro e w1 ⟨g, k1, rfl, hx, hb1⟩
  have y1 : w1.cell? ⟨g, 1, none⟩ = some (.int .i64 3) := (hx 0 (by decide)).2
  have T1 : Table w1 := (HT0.out.drewN n1).below (Nat.lt_of_lt_of_le h0 hb0.size) hb1
  have D4 : Kd.C (Kd.int .i32) w1 (some ⟨w.heap.size, 0, none⟩) 4 l4 := Kd.C_below (Kd.C_drewN HC4.out n1) hb1
  have D3 : Kd.C (Kd.int .i32) w1 (some ⟨w.heap.size, 0, none⟩) 3 [4352, 4449, 4520] := Kd.C_below (Kd.C_drewN HC3.out n1) hb1
  have B1 : Below w.heap.size w w1 := below_step (pw_below_drewN hb0 _) hb1
  clear hx hb1
  go_wp2_with fail
  go_region_held3 (fun w' => w'.cell? ⟨g, 1, none⟩ = some (.int .i64 3)) (go_keep) (first | (go_at_call 13; refine (parts_call 44033 3 (by decide) _).mono ?_; rintro e w2 ⟨A2, k2, rfl, hk2, hC2, hb2⟩; have y2 := pw_cell_below hb2 (by exact y1); have T2 := (show Table w1.drew from T1).below T1.pos hb2; have E4 := Kd.C_below (Kd.C_drew D4) hb2; have E3 := Kd.C_below (Kd.C_drew D3) hb2) | (go_at_call 12; refine (codes_same _ _ 3 k2 4 (parts 44033) [4352, 4449, 4520] (by decide) (by decide) _ (by repeat (first | assumption | exact C_roles _ | (with_reducible refine Kd.C_alloc ?_ _) | (with_reducible refine Kd.C_drewN ?_ _) | (with_reducible refine Kd.C_drew ?_))) hk2 (by repeat (first | assumption | exact C_roles _ | (with_reducible refine Kd.C_alloc ?_ _) | (with_reducible refine Kd.C_drewN ?_ _) | (with_reducible refine Kd.C_drew ?_))) (by decide) (by decide)).mono ?_; rintro e w3 ⟨rfl, ⟨n3, rfl⟩⟩) | (go_at_call 18; refine (roles_call _ 4 4 l4 rfl [1, 2, 3, 0] 4 (by decide) rfl (by decide) ok4 (by decide) _ (by repeat (first | assumption | refine Table.alloc ?_ _ | refine Table.drewN ?_ _ | refine Table.drew ?_)) (by repeat (first | assumption | exact C_roles _ | (with_reducible refine Kd.C_alloc ?_ _) | (with_reducible refine Kd.C_drewN ?_ _) | (with_reducible refine Kd.C_drew ?_)))).mono ?_; rintro e w4 ⟨A4, k4, rfl, hk4, hC4, hb4⟩; have y4 := pw_cell_below hb4 (by first | exact y2 | exact pw_cell_below ((Below.refl _ _).alloc (Nat.le_refl _) _) (by exact y2)); have T4 : Table w4 := Table.below (by repeat (first | assumption | refine Table.alloc ?_ _ | refine Table.drewN ?_ _ | refine Table.drew ?_)) (Nat.lt_of_lt_of_le (Table.pos (by repeat (first | assumption | refine Table.alloc ?_ _ | refine Table.drewN ?_ _ | refine Table.drew ?_))) (Nat.le_refl _)) hb4) | (go_at_call 17; refine (ints_same _ _ 4 k4 4 [1, 2, 3, 0] [1, 2, 3, 0] rfl rfl _ (by repeat (first | assumption | exact C_roles _ | exact C_roles' (by assumption) | (with_reducible refine Kd.C_alloc ?_ _) | (with_reducible refine Kd.C_drewN ?_ _) | (with_reducible refine Kd.C_drew ?_))) hk4 (by repeat (first | assumption | exact C_roles _ | exact C_roles' (by assumption) | (with_reducible refine Kd.C_alloc ?_ _) | (with_reducible refine Kd.C_drewN ?_ _) | (with_reducible refine Kd.C_drew ?_))) (by decide) (by decide)).mono ?_; rintro e w5 ⟨rfl, ⟨n5, rfl⟩⟩) | (go_at_call 10; refine (kind_call 44032 4 (by decide) (by unfold ok32; omega) _ (by repeat (first | assumption | refine Table.alloc ?_ _ | refine Table.drewN ?_ _ | refine Table.drew ?_))).mono ?_; rintro e w6 ⟨rfl, hb6⟩; have y6 := pw_cell_below hb6 (by first | exact y4 | exact pw_cell_below ((Below.refl _ _).alloc (Nat.le_refl _) _) (by exact y4))))
  all_goals
    go_wp2
    go_ret
    have B2 := below_step (below_drew1 B1) hb2
    refine ⟨rfl, ?_⟩
    first
      | exact below_step (pw_below_drewN (below_alloc (below_step (pw_below_drewN B2 _) hb4) _) _) hb6
      | exact below_step (pw_below_drewN (below_step (below_alloc (pw_below_drewN B2 _) _) hb4) _) hb6
end Go.Proofs.YtloidjfcelbpmaaDoor
