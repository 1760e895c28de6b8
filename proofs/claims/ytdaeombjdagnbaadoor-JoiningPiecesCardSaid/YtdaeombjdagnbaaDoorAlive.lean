/- The document's example answers true: what the call of alive does. Condition: the table's cells. -/
import Derived.Test.YtdaeombjdagnbaaDoorCuts2
namespace Go.Proofs.YtdaeombjdagnbaaDoor
open Go.RowKit Go.Proofs.YtdaeombjdagnbaaDoorW.PrintWords Go.Proofs.YtdaeombjdagnbaaDoorW.PrintLast Go.Proofs.YtdaeombjdagnbaaDoorW.PrintMore
open PJoiningForms Math

theorem C_lit (W : World) (e : TypeId) (k : IntKind) (xs : List Int) (hm : xs.length ≤ 9223372036854775807) : Kd.C (Kd.int k) (W.alloc (.cells (nums k xs).toArray e)) (some ⟨W.heap.size, 0, none⟩) xs.length xs :=
  Kd.C_of_reads (enc := Value.int k) (d := (0 : Int)) (own_reads' (own_lit W W.heap.size e k xs (Nat.le_refl _) hm))
theorem C_four (W : World) (a b c d : Int) : Kd.C (Kd.int .i64) (W.alloc (.cells #[.int .i64 a, .int .i64 b, .int .i64 c, .int .i64 d] 3)) (some ⟨W.heap.size, 0, none⟩) 4 [a, b, c, d] := by
  simpa [nums] using C_lit W 3 .i64 [a, b, c, d] (by simp)

theorem feature4 (w : World) (hT : Table w) : Calls Tryd.prog 15 #[.int .i64 4] w fun e w' => e = .returned (.string ⟨#[105, 110, 105, 116]⟩) ∧ w = w' := feature_any 4 w hT
theorem cuts4 (c0 : Nat) (A0 : Option Addr) (w : World) (hr0 : Kd.C (Kd.int .i64) w A0 4 [2, 5, 1, 2]) (hc0 : 4 ≤ c0) :
    Calls Tryd.prog 13 #[.slice A0 4 c0] w fun e w' => ∃ A c, e = .returned (.slice A 2 c) ∧ Below w.heap.size w w' :=
  (cuts_any A0 c0 [2, 5, 1, 2] w hr0 hc0 (by decide)).mono fun e w' ⟨v, he, ho, hb⟩ => by
    obtain ⟨A, c, hv⟩ := own_slice ho
    have hn : (cuts [2, 5, 1, 2]).length = 2 := by decide
    rw [hn] at hv
    exact ⟨A, c, he.trans (congrArg _ hv), hb⟩
theorem forms4 (c0 : Nat) (A0 : Option Addr) (w : World) (hr0 : Kd.C (Kd.int .i64) w A0 4 [2, 5, 1, 2]) (hc0 : 4 ≤ c0) :
    Calls Tryd.prog 11 #[.slice A0 4 c0] w fun e w' => ∃ A c, e = .returned (.slice A 4 c) ∧ 4 ≤ c ∧ Kd.C (Kd.int .i64) w' A 4 [4, 0, 2, 1] ∧ Below w.heap.size w w' :=
  (joining_Forms.calls 100 A0 c0 [2, 5, 1, 2] _ w hr0 hc0 (forms_f _ (by decide) _ (by decide))).mono fun e w' ⟨v, he, ho, hb⟩ => by
    have hf : forms [2, 5, 1, 2] = [4, 0, 2, 1] := by decide
    rw [hf] at ho
    obtain ⟨A, c, hv, hc, hC⟩ := Kd.R_reads ho
    exact ⟨A, c, he.trans (congrArg _ hv), hc, hC, hb⟩
theorem ints4 (A0 A1 : Option Addr) (c0 c1 : Nat) (w : World) (hr0 : Kd.C (Kd.int .i64) w A0 4 [4, 0, 2, 1]) (hc0 : 4 ≤ c0) (hr1 : Kd.C (Kd.int .i64) w A1 4 [4, 0, 2, 1]) (hc1 : 4 ≤ c1) :
    Calls Tryd.prog 10 #[.slice A0 4 c0, .slice A1 4 c1] w fun e w' => e = .returned (.bool true) ∧ Drawn0 w w' :=
  reedpenref01_Ints.calls 100 A0 c0 [4, 0, 2, 1] A1 c1 [4, 0, 2, 1] true w hr0 hc0 hr1 hc1 (ints_f _ _ (by decide) _ (by decide))
theorem joins21 (w : World) : Calls Tryd.prog 8 #[.int .i64 2, .int .i64 1] w fun e w' => e = .returned (.bool true) ∧ Drawn0 w w' := joining_Joins.calls 2 1 true w (by decide)

set_option maxHeartbeats 1600000 in
set_option maxRecDepth 100000 in
theorem alive_any (w : World) (hT : Table w) (h0 : 0 < w.heap.size) : Calls Tryd.prog 7 #[] w fun e w' => e = .returned (.bool true) ∧ Below w.heap.size w w' := by
  have C1 := C_four w 2 5 1 2
  have hbel : Below w.heap.size w (w.alloc (.cells #[.int .i64 2, .int .i64 5, .int .i64 1, .int .i64 2] 3)) := (Below.refl _ w).alloc (Nat.le_refl _) _
  go_enter Tryd.func7, Tryd.ntmps7
  go_wp2_with (go_at_call 11; refine (forms4 4 _ _ C1 (Nat.le_refl _)).mono ?_)
  rintro e w1 ⟨A1, c1, rfl, hc1, hC1, hb1⟩
  have hs1 : w.heap.size + 1 ≤ w1.heap.size := by have := hb1.size; simpa using this
  have hbw1 : Below w.heap.size w w1 := below_step hbel hb1
  have C2 := C_four w1 4 0 2 1
  have hC1' := Kd.C_alloc hC1 (.cells #[.int .i64 4, .int .i64 0, .int .i64 2, .int .i64 1] 3)
  have hbw2 : Below w.heap.size w (w1.alloc (.cells #[.int .i64 4, .int .i64 0, .int .i64 2, .int .i64 1] 3)) := below_alloc hbw1 _
  have hT2 := hT.below h0 hbw2
  have hCl : Kd.C (Kd.int .i64) (w1.alloc (.cells #[.int .i64 4, .int .i64 0, .int .i64 2, .int .i64 1] 3)) (some ⟨w.heap.size, 0, none⟩) 4 [2, 5, 1, 2] := Kd.C_alloc (Kd.C_below C1 hb1) _
  go_wp2_with (first | (go_at_call 10; refine (ints4 _ _ _ _ _ (by exact hC1') hc1 (by exact C2) (Nat.le_refl _)).mono ?_; rintro e w' ⟨rfl, ⟨n1, rfl⟩⟩) | (go_at_call 8; refine (joins21 _).mono ?_; rintro e w' ⟨rfl, ⟨n2, rfl⟩⟩) | (go_at_call 15; refine (feature4 _ (by exact hT2)).mono ?_; rintro e w' ⟨rfl, rfl⟩) | (go_at_call 13; refine (cuts4 4 _ _ (by exact hCl) (Nat.le_refl _)).mono ?_; rintro e w2 ⟨A2, c2, rfl, hb2⟩))
  go_ret
  exact ⟨rfl, below_step (pw_below_drewN hbw2 _) (by assumption)⟩
end Go.Proofs.YtdaeombjdagnbaaDoor
