/- The laws HangulParts, HangulBack answer true: their walks. Conditions: the table's block; the numbers are of their kind. -/
import Derived.Test.YtloidjfcelbpmaaDoorMath2
namespace Go.Proofs.YtloidjfcelbpmaaDoor
open Go.RowKit Go.Proofs.YtloidjfcelbpmaaDoorW.PrintWords Go.Proofs.YtloidjfcelbpmaaDoorW.PrintLast Go.Proofs.YtloidjfcelbpmaaDoorW.PrintMore
open PHangulParts

set_option maxHeartbeats 1600000 in
set_option maxRecDepth 100000 in
theorem law_parts (c : Int) (A : Option Addr) (k : Nat) (l : List Int) (w : World) (hc : (Lit.int .i32 c).wf = true) (hr : Kd.C (Kd.int .i32) w A l.length l) (hk : l.length ≤ k) (hw : ∀ n ∈ l, (Lit.int .i32 n).wf = true) (hT : Table w) (h0 : 0 < w.heap.size) :
    Calls Tryd.prog 3 #[.int .i32 c, .slice A l.length k] w fun e w' => e = .returned (.bool true) ∧ Below w.heap.size w w' := by
  have HOC := Aside0.mk (ok_of_wf hc)
  have HOL := Aside0.mk (show AllOk l from fun x hx => ok_of_wf (hw x hx))
  obtain ⟨x, ok, hx⟩ : ∃ x ok, whole l = (x, ok) := ⟨_, _, rfl⟩
  obtain ⟨v, hv⟩ : ∃ v, kind c = v := ⟨_, rfl⟩
  obtain ⟨n, hn⟩ : ∃ n, (parts c).length = n := ⟨_, rfl⟩
  have hn1 : n ≤ 3 := by
    rw [← hn]
    unfold parts
    split
    · split <;> simp
    · simp
  have HX := Aside0.mk hx
  have HV := Aside0.mk hv
  have HN := Aside0.mk hn
  clear hx hv hn hc hw
  go_enter Tryd.func3, Tryd.ntmps3
  go_wp2_with fail
  refine (alive_any _ hT).mono ?_
  rintro e w1 ⟨rfl, hb1⟩
  have hC1 := Kd.C_below hr hb1
  have T1 := hT.below h0 hb1
  go_wp2_with (first | (go_at_call 8; refine (whole_call A l.length k l rfl x ok HX.out _ (by exact hC1) hk).mono ?_; rintro e w' ⟨rfl, ⟨n1, rfl⟩⟩) | (go_at_call 9; refine (ref_whole_call A l.length k l rfl HOL.out x ok HX.out _ (by exact hC1) hk).mono ?_; rintro e w' ⟨rfl, ⟨n2, rfl⟩⟩) | (go_at_call 10; refine (kind_call c v HV.out HOC.out _ (by exact T1)).mono ?_))
  rintro e w2 ⟨rfl, hb2⟩
  go_wp2_with (first | (go_at_call 11; refine (ref_kind_eq c v HV.out _).mono ?_; rintro e w' ⟨rfl, ⟨n3, rfl⟩⟩) | (go_at_call 13; refine (parts_call c n HN.out _).mono ?_))
  rintro e w3 ⟨A3, k3, rfl, hk3, hC3, hb3⟩
  go_wp2_with (go_at_call 14; refine (ref_parts_call c n HN.out HOC.out _).mono ?_)
  rintro e w4 ⟨A4, k4, rfl, hk4, hC4, hb4⟩
  have hC3' := Kd.C_below hC3 hb4
  go_wp2_with (go_at_call 12; refine (codes_same A3 A4 n k3 k4 (parts c) (parts c) HN.out rfl _ (by exact hC3') hk3 (by exact hC4) hk4 (by omega)).mono ?_; rintro e w' ⟨rfl, ⟨n4, rfl⟩⟩)
  go_ret
  exact ⟨rfl, pw_below_drewN (below_step (below_step (pw_below_drewN (below_step (pw_below_drewN hb1 _) hb2) _) hb3) hb4) _⟩

theorem cut_len (A : Option Addr) (n c : Nat) (l : List Int) (hn : l.length = n) (hc : n ≤ c) (hok : AllOk l) (hl : n ≤ 1000) (o : List (Int × Int)) (m : Nat) (ho : cutFrom l 0 = o) (hm : o.length = m) (h0 : 0 < m) (w : World) (hT : Table w) (hr : Kd.C (Kd.int .i32) w A n l) :
    Calls Tryd.prog 15 #[.slice A n c] w fun e w' => ∃ A k, e = .returned (.slice A m k) ∧ Below w.heap.size w w' :=
  (cut_call A n c l hn hc hok hl o m ho hm h0 w hT hr).mono fun _ _ ⟨_, k, he, _, hb⟩ => ⟨_, k, he, hb⟩
theorem C_one (W : World) (x : Int) : Kd.C (Kd.int .i32) (W.alloc (.cells #[.int .i32 x] 21)) (some ⟨W.heap.size, 0, none⟩) 1 [x] := by
  simpa [nums] using C_lit W 21 .i32 [x] (by simp)

set_option maxHeartbeats 1600000 in
set_option maxRecDepth 100000 in
theorem law_back (A : Option Addr) (k : Nat) (l : List Int) (w : World) (hr : Kd.C (Kd.int .i32) w A l.length l) (hk : l.length ≤ k) (hw : ∀ n ∈ l, (Lit.int .i32 n).wf = true) (hT : Table w) (h0 : 0 < w.heap.size) :
    Calls Tryd.prog 6 #[.slice A l.length k] w fun e w' => e = .returned (.bool true) ∧ Below w.heap.size w w' := by
  have HOL := Aside0.mk (show AllOk l from fun x hx => ok_of_wf (hw x hx))
  obtain ⟨x, ok, hx⟩ : ∃ x ok, whole l = (x, ok) := ⟨_, _, rfl⟩
  cases ok with
  | false =>
    obtain rfl := whole_false l x hx
    have HX := Aside0.mk hx
    clear hx hw
    go_enter Tryd.func6, Tryd.ntmps6
    go_wp2_with fail
    refine (alive_any _ hT).mono ?_
    rintro e w1 ⟨rfl, hb1⟩
    have hC1 := Kd.C_below hr hb1
    go_wp2_with (first | (go_at_call 8; refine (whole_call A l.length k l rfl 0 false HX.out _ (by exact hC1) hk).mono ?_; rintro e w' ⟨rfl, ⟨n1, rfl⟩⟩))
    go_ret
    exact ⟨rfl, pw_below_drewN hb1 _⟩
  | true =>
    obtain ⟨g1, g2, g3, g4, g5, g6⟩ := whole_back l x hx
    have HX := Aside0.mk hx
    have HP := Aside0.mk (show (parts x).length = l.length by rw [g1])
    have HPL := Aside0.mk g1
    have HCU := Aside0.mk g2
    have HK := Aside0.mk g3
    have HO := Aside0.mk g4
    have HXO := Aside0.mk (show AllOk [x] from fun y hy => by simp at hy; subst hy; exact g4)
    have HC1 := Aside0.mk (show cutFrom [x] 0 = [(0, 1)] from cut_all [x] (by simp) (blk_one x))
    clear hx hw g1 g2 g3 g4
    have hb9 : ((l.length : Int) + 2 == (l.length : Int) + 2) = true := by simp
    go_enter Tryd.func6, Tryd.ntmps6
    go_wp2_with fail
    refine (alive_any _ hT).mono ?_
    rintro e w1 ⟨rfl, hb1⟩
    have hC1 := Kd.C_below hr hb1
    have T1 := hT.below h0 hb1
    go_wp2_with (first | (go_at_call 8; refine (whole_call A l.length k l rfl x true HX.out _ (by exact hC1) hk).mono ?_; rintro e w' ⟨rfl, ⟨n1, rfl⟩⟩) | (go_at_call 13; refine (parts_call x l.length HP.out _).mono ?_))
    rintro e w2 ⟨A2, k2, rfl, hk2, hC2, hb2⟩
    have hC2' := Kd.C_below (Kd.C_drewN hC1 n1) hb2
    have T2 := (T1.drewN n1).below T1.pos hb2
    have B2 := below_step (pw_below_drewN hb1 n1) hb2
    go_wp2_with (first | (go_at_call 12; refine (codes_same A2 A l.length k2 k (parts x) l HP.out HPL.out.symm _ (by exact hC2) hk2 (by exact hC2') hk (by omega)).mono ?_; rintro e w' ⟨rfl, ⟨n2, rfl⟩⟩) | (go_at_call 15; refine (cut_len A l.length k l rfl hk HOL.out (by omega) _ 1 HCU.out rfl (by decide) _ (by exact T2) (by exact hC2')).mono ?_))
    rintro e w3 ⟨A3, k3, rfl, hb3⟩
    have T3 := (T2.drewN n2).below T2.pos hb3
    have B3 := below_step (pw_below_drewN B2 n2) hb3
    go_wp2_with (go_at_call 15; refine (cut_len _ 1 1 [x] rfl (by decide) HXO.out (by decide) _ 1 HC1.out rfl (by decide) _ (by exact T3.alloc _) (by exact C_one w3 x)).mono ?_)
    rintro e w4 ⟨A4, k4, rfl, hb4⟩
    have T4 := (T3.alloc _).below (T3.alloc _).pos hb4
    have B4 := below_step (below_alloc B3 _) hb4
    go_wp2_with (go_at_call 10; refine (kind_call x ((l.length : Int) + 2) HK.out HO.out _ (by exact T4)).mono ?_)
    rintro e w5 ⟨rfl, hb5⟩
    go_wp2
    go_ret
    exact ⟨rfl, below_step B4 hb5⟩
end Go.Proofs.YtloidjfcelbpmaaDoor
