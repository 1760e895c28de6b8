/- The laws HangulCuts, HangulWhole answer true: their walks. Conditions: the table's block; the numbers are of their kind. -/
import Derived.Test.YtloidjfcelbpmaaDoorLaws
import Derived.Laws.StructEq
namespace Go.Proofs.YtloidjfcelbpmaaDoor
open Go.RowKit Go.Proofs.YtloidjfcelbpmaaDoorW.PrintWords Go.Proofs.YtloidjfcelbpmaaDoorW.PrintLast Go.Proofs.YtloidjfcelbpmaaDoorW.PrintMore
open PHangulParts

theorem under32 : Tryd.prog.underlying 32 = some (.array 2 3) := by kernel_rfl
theorem size3 (w : World) : (sizeOf 3).run Tryd.prog w = .ok 1 w := by kernel_rfl
theorem part3 (cs : Array Value) (i : Nat) (v : Value) (h : cs[i]? = some v) (w : World) : (part 3 cs i).run Tryd.prog w = .ok v w := by
  have hz : (isAgg 3).run Tryd.prog w = .ok false w := by kernel_rfl
  simp [part, hz, h]
theorem eq_same (d : Nat) (x y : Int) (w : World) : (Op.equalIn (d + 1 + 1) 32 (.agg #[.int .i64 x, .int .i64 y]) (.agg #[.int .i64 x, .int .i64 y])).run Tryd.prog w = .ok true w := by
  have p0 := fun w => part3 #[.int .i64 x, .int .i64 y] 0 (.int .i64 x) rfl w
  have p1 := fun w => part3 #[.int .i64 x, .int .i64 y] 1 (.int .i64 y) rfl w
  have e := fun (z : Int) (w : World) => run_equalIn_int (P := Tryd.prog) (w := w) d 3 .i64 .i64 z z Tryd.underlying3
  rw [Op.equalIn]
  simp only [Sem.run_bind, run_underlying under32, size3, Result.andThen_ok]
  simp [List.range', p0, p1, e]
theorem eq_same' (x y : Int) (w : World) : (Op.equalIn 10000 32 (.agg #[.int .i64 x, .int .i64 y]) (.agg #[.int .i64 x, .int .i64 y])).run Tryd.prog w = .ok true w := eq_same 9998 x y w

theorem roles_res (A : Option Addr) (c : Nat) (l : List Int) (m : Nat) (hm : (rolesTo l (cutFrom l 0)).length = m) (hc : l.length ≤ c) (hok : AllOk l) (hl : l.length ≤ 300) (w : World) (hT : Table w) (hC : Kd.C (Kd.int .i32) w A l.length l) :
    Calls Tryd.prog 18 #[.slice A l.length c] w fun e w' => ∃ A' k, e = .returned (.slice A' m k) ∧ m ≤ k ∧ Kd.C (Kd.int .i64) w' A' m (rolesTo l (cutFrom l 0)) ∧ Below w.heap.size w w' :=
  roles_call A l.length c l rfl _ m rfl hm hc hok hl w hT hC
theorem ref_roles_res (A : Option Addr) (c : Nat) (l : List Int) (m : Nat) (hm : (rolesTo l (cutFrom l 0)).length = m) (hl : l.length ≤ 300) (w : World) (hC : Kd.C (Kd.int .i32) w A l.length l) :
    Calls Tryd.prog 19 #[.slice A l.length c] w fun e w' => ∃ A' k, e = .returned (.slice A' m k) ∧ m ≤ k ∧ Kd.C (Kd.int .i64) w' A' m (rolesTo l (cutFrom l 0)) ∧ Below w.heap.size w w' := by
  subst hm
  exact (ref_roles_any A c l hl w hC).mono fun e w' ⟨v, he, ho, hb⟩ => by
    obtain ⟨A', k, hv, hR⟩ := own_reads ho
    refine ⟨A', k, he.trans (congrArg _ hv), ?_, Kd.C_of_reads (enc := Value.int .i64) (d := (0 : Int)) hR, hb⟩
    rw [hv] at ho
    exact own_cap ho
theorem rolesTo_length (l : List Int) : (rolesTo l (cutFrom l 0)).length ≤ 3 * (cutFrom l 0).length := by
  have key : ∀ cs : List (Int × Int), (∀ q ∈ cs, ∃ a b : Nat, q = ((a : Int), (b : Int)) ∧ b ≤ a + 3) → (rolesTo l cs).length ≤ 3 * cs.length := by
    intro cs
    induction cs with
    | nil => intro _; simp [rolesTo]
    | cons x r ih =>
      intro h
      obtain ⟨a, b, rfl, hab⟩ := h x (by simp)
      have h2 := ih fun q hq => h q (by simp [hq])
      have e : rolesTo l (((a : Int), (b : Int)) :: r) = rolesOf l ((a : Int), (b : Int)) ++ rolesTo l r := by simp [rolesTo]
      rw [e, List.length_append, rolesOf_at, List.length_map, List.length_range, List.length_cons]
      omega
  exact key _ fun q hq => by
    obtain ⟨a, b, h1, _, _, h4, _⟩ := cutF_mem l _ _ q hq
    exact ⟨a, b, h1, h4⟩

set_option maxHeartbeats 3200000 in
set_option maxRecDepth 100000 in
theorem law_cuts (A : Option Addr) (c : Nat) (l : List Int) (w : World) (hr : Kd.C (Kd.int .i32) w A l.length l) (hc : l.length ≤ c) (hw : ∀ n ∈ l, (Lit.int .i32 n).wf = true) (hT : Table w) (h0 : 0 < w.heap.size) :
    Calls Tryd.prog 4 #[.slice A l.length c] w fun e w' => e = .returned (.bool true) ∧ Below w.heap.size w w' := by
  by_cases hl : l.length ≤ 300
  · have hd : decide ((300 : Int) < (l.length : Int)) = false := by simp; omega
    have HOL := Aside0.mk (show AllOk l from fun x hx => ok_of_wf (hw x hx))
    obtain ⟨m, hm⟩ : ∃ m, (rolesTo l (cutFrom l 0)).length = m := ⟨_, rfl⟩
    have hm1 := rolesTo_length l
    have hcl := cutFrom_length l 0
    rw [hm] at hm1
    have HM := Aside0.mk hm
    clear hw hm
    go_enter Tryd.func4, Tryd.ntmps4
    go_wp2_with fail
    refine (alive_any _ hT).mono ?_
    rintro e w1 ⟨rfl, hb1⟩
    have hC1 := Kd.C_below hr hb1
    have T1 := hT.below h0 hb1
    go_wp2_with (go_at_call 15; refine (cut_any A c l hc HOL.out (by omega) _ (by exact T1) (by exact hC1)).mono ?_)
    rintro e w2 ⟨v2, rfl, ho2, hb2⟩
    have hC2 := Kd.C_below hC1 hb2
    have T2 := T1.below T1.pos hb2
    go_wp2_with (go_at_call 16; refine (ref_cut_any A c l (by omega) _ (by exact hC2)).mono ?_)
    rintro e w3 ⟨v3, rfl, ho3, hb3⟩
    have HC3 := Aside0.mk (Kd.C_below hC2 hb3)
    have HT3 := Aside0.mk (T2.below T2.pos hb3)
    have ho2' := pw_own_below ho2 hb3
    have HB3 := Aside0.mk (below_step (below_step hb1 hb2) hb3)
    rcases Nat.eq_zero_or_pos (cutFrom l 0).length with hz | hpos
    · rw [hz] at ho2' ho3
      obtain ⟨A2, k2, rfl⟩ := own_slice ho2'
      obtain ⟨A3, k3, rfl⟩ := own_slice ho3
      clear hz
      go_wp2_with fail
      go_loopw [5] (fun i wr => i = .int .i64 0 ∧ wr = w3) (fun _ _ => 0)
      case atStart => exact ⟨rfl, rfl⟩
      case round =>
        obtain ⟨rfl, rfl⟩ := hrel
        go_wp2_with (go_at_call 18; refine (roles_res A c l m HM.out hc HOL.out (by omega) _ (by exact HT3.out) (by exact HC3.out)).mono ?_)
        rintro e w4 ⟨A4, k4, rfl, hk4, hC4, hb4⟩
        have hCl := Kd.C_below HC3.out hb4
        go_wp2_with (go_at_call 19; refine (ref_roles_res A c l m HM.out (by omega) _ (by exact hCl)).mono ?_)
        rintro e w5 ⟨A5, k5, rfl, hk5, hC5, hb5⟩
        have hC4' := Kd.C_below hC4 hb5
        go_wp2_with (go_at_call 17; refine (ints_same A4 A5 m k4 k5 _ _ HM.out rfl _ (by exact hC4') hk4 (by exact hC5) hk5 (by omega)).mono ?_; rintro e w' ⟨rfl, ⟨n1, rfl⟩⟩)
        go_ret
        exact ⟨rfl, pw_below_drewN (below_step (below_step HB3.out hb4) hb5) _⟩
    · obtain ⟨g2, k2, rfl, hg2, hx2⟩ := pairs_open ho2' rfl hpos
      obtain ⟨g3, k3, rfl, hg3, hx3⟩ := pairs_open ho3 rfl hpos
      go_wp2_with fail
      go_loopw [5] (fun i wr => ∃ k n : Nat, k ≤ (cutFrom l 0).length ∧ i = .int .i64 k ∧ wr = w3.drewN n) (fun i _ => (cutFrom l 0).length - (intOf i).toNat)
      case atStart => exact ⟨0, 0, Nat.zero_le _, rfl, rfl⟩
      case round =>
        obtain ⟨k, n, hk, rfl, rfl⟩ := hrel
        by_cases hlt : k < (cutFrom l 0).length
        · obtain ⟨a1, a2⟩ := hx2 k hlt
          obtain ⟨a3, a4⟩ := hx3 k hlt
          have b1 : (0 : Int) ≤ (k : Int) := by omega
          have b2 : (k : Int) < ((cutFrom l 0).length : Int) := by omega
          obtain ⟨x, hx⟩ : ∃ x, x = ((cutFrom l 0).getD k (0, 0)).1 := ⟨_, rfl⟩
          obtain ⟨y, hy⟩ : ∃ y, y = ((cutFrom l 0).getD k (0, 0)).2 := ⟨_, rfl⟩
          rw [← hx] at a1 a3
          rw [← hy] at a2 a4
          clear hx hy hx2 hx3
          have hq := eq_same' x y
          have hg := Tryd.eqGuardType32
          go_wp2
          go_quiet (fail)
          go_wp2
          go_roundw
          case rel => exact ⟨k + 1, n + nq, by omega, by go_num, rfl⟩
          case measure => simp [intOf]; omega
        · clear hx2 hx3
          go_wp2_with (go_at_call 18; refine (roles_res A c l m HM.out hc HOL.out (by omega) _ (by exact HT3.out) (by exact HC3.out)).mono ?_)
          rintro e w4 ⟨A4, k4, rfl, hk4, hC4, hb4⟩
          have hCl := Kd.C_below (Kd.C_drewN HC3.out n) hb4
          go_wp2_with (go_at_call 19; refine (ref_roles_res A c l m HM.out (by omega) _ (by exact hCl)).mono ?_)
          rintro e w5 ⟨A5, k5, rfl, hk5, hC5, hb5⟩
          have hC4' := Kd.C_below hC4 hb5
          go_wp2_with (go_at_call 17; refine (ints_same A4 A5 m k4 k5 _ _ HM.out rfl _ (by exact hC4') hk4 (by exact hC5) hk5 (by omega)).mono ?_; rintro e w' ⟨rfl, ⟨n1, rfl⟩⟩)
          go_ret
          exact ⟨rfl, pw_below_drewN (below_step (below_step (pw_below_drewN HB3.out n) hb4) hb5) _⟩
  · have hd : decide ((300 : Int) < (l.length : Int)) = true := by simp; omega
    go_enter Tryd.func4, Tryd.ntmps4
    go_wp2_with fail
    refine (alive_any _ hT).mono ?_
    rintro e w1 ⟨rfl, hb1⟩
    go_wp2
    go_ret
    exact ⟨rfl, hb1⟩
end Go.Proofs.YtloidjfcelbpmaaDoor
