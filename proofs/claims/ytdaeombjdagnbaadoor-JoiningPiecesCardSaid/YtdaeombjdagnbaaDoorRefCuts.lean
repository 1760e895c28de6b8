/- What the call of the reference's Cuts does: the same pieces as the program's. Condition: the list has at most 1000 elements. -/
import Derived.Test.YtdaeombjdagnbaaDoorFormsWalk
import Derived.Deep.QuietTactic
import Derived.BigQuiet
import Derived.IntWalk
namespace Go.Proofs.YtdaeombjdagnbaaDoor
open Go.RowKit Go.Proofs.YtdaeombjdagnbaaDoorW.PrintWords Go.Proofs.YtdaeombjdagnbaaDoorW.PrintLast Go.Proofs.YtdaeombjdagnbaaDoorW.PrintMore
open PJoiningForms Math

/-- The next place that isn't passed over, or the end. -/
theorem next_seen (l : List Int) (d : Nat) : ∀ p, l.length = p + d → ∃ p', p ≤ p' ∧ p' ≤ l.length ∧ (p' = l.length ∨ rd l (p' : Int) ≠ 5) ∧ (Math.seen l p').length = (Math.seen l p).length ∧ cst l p' = cst l p := by
  induction d with
  | zero => intro p hp; exact ⟨p, Nat.le_refl _, by omega, .inl (by omega), rfl, rfl⟩
  | succ d ih =>
    intro p hp
    by_cases h : rd l (p : Int) = 5
    · obtain ⟨p', h1, h2, h3, h4, h5⟩ := ih (p + 1) (by omega)
      refine ⟨p', by omega, h2, h3, ?_, ?_⟩
      · rw [h4, seen_succ, if_pos h]
      · rw [h5]
        show (if _ then _ else _) = _
        rw [if_neg (fun hh => hh.1 h)]
    · exact ⟨p, Nat.le_refl _, by omega, .inr h, rfl, rfl⟩

theorem after_seen (l : List Int) (p : Nat) (hp : p < l.length) (h5 : rd l (p : Int) ≠ 5) : ∃ p', p' ≤ l.length ∧ (p' = l.length ∨ rd l (p' : Int) ≠ 5) ∧ (Math.seen l p').length = (Math.seen l p).length + 1 ∧ cst l p' = cst l (p + 1) := by
  obtain ⟨p', _, h1, h2, h3, h4⟩ := next_seen l (l.length - (p + 1)) (p + 1) (by omega)
  refine ⟨p', h1, h2, ?_, h4⟩
  rw [h3, seen_succ, if_neg h5]
  simp
theorem cst_yes (l : List Int) (p : Nat) (h5 : rd l (p : Int) ≠ 5) (hj : jn (lf l p) (rd l (p : Int)) = false) (hf : (cst l p).1 < p) : cst l (p + 1) = ((p : Int), (cst l p).2 ++ [((cst l p).1, (p : Int))]) := if_pos ⟨h5, hj, hf⟩
theorem cst_no (l : List Int) (p : Nat) (h : jn (lf l p) (rd l (p : Int)) = true ∨ ¬ (cst l p).1 < p) : cst l (p + 1) = cst l p := if_neg fun hh => by
  rcases h with h | h
  · rw [h] at hh; exact absurd hh.2.1 (by decide)
  · exact h hh.2.2
theorem below_alloc_le {B : Nat} {w W : World} (h : Below B w W) (hB : B ≤ W.heap.size) (o : Obj) : Below B w (W.alloc o) := h.alloc hB o

theorem two_new (W : World) (x y : Int) : ∀ j u, ([.int .i64 x, .int .i64 y] : List Value)[j]? = some u → (W.alloc (.cells #[.int .i64 x, .int .i64 y] 32)).cell? ((⟨W.heap.size, 0, none⟩ : Addr).add j) = some u := by
  intro j u hj
  match j, hj with
  | 0, hj => simp at hj; subst hj; simp [Addr.add]
  | 1, hj => simp at hj; subst hj; simp [Addr.add]

theorem seen_call (A0 : Option Addr) (c0 : Nat) (l : List Int) (w : World) (hr0 : Kd.C (Kd.int .i64) w A0 l.length l) (hc0 : l.length ≤ c0) (hl : l.length ≤ 1000) :
    Calls Tryd.prog 17 #[.slice A0 l.length c0] w fun e w' => ∃ A c, e = .returned (.slice A (Math.seen l l.length).length c) ∧ Kd.C (Kd.int .i64) w' A (Math.seen l l.length).length (Math.seen l l.length) ∧ Below w.heap.size w w' :=
  (reedpenref23_Seen.calls _ A0 c0 l _ w hr0 hc0 (seen_f l (by omega) _ (Nat.le_refl _))).mono fun e w' ⟨v, he, ho, hb⟩ => by
    obtain ⟨A, c, hv, hc, hC⟩ := Kd.R_reads ho
    exact ⟨A, c, he.trans (congrArg _ hv), hC, hb⟩
theorem ref_joins_quiet (a b : Int) (j : Bool) (hj : jn a b = j) (w : World) : Calls Tryd.prog 9 #[.int .i64 a, .int .i64 b] w fun e w' => e = .returned (.bool j) ∧ ∃ n, w' = w.drewN n :=
  (ref_joins_call a b w).mono fun _ _ ⟨h, ⟨n, hn⟩⟩ => ⟨by rw [h, hj], n, hn⟩

set_option maxHeartbeats 3200000 in
set_option maxRecDepth 100000 in
theorem ref_cuts_any (A0 : Option Addr) (c0 : Nat) (l : List Int) (w : World) (hr0 : Kd.C (Kd.int .i64) w A0 l.length l) (hc0 : l.length ≤ c0) (hl : l.length ≤ 1000) :
    Calls Tryd.prog 14 #[.slice A0 l.length c0] w fun e w' => ∃ v, e = .returned v ∧ w'.ownsRow w.heap.size 32 2 v (cuts l).length (cells2 (cuts l)) ∧ Below w.heap.size w w' := by
  have HR0 := Aside0.mk hr0
  have HC0 := Aside0.mk hc0
  obtain ⟨i0, hi, hz0, hz1, hz2⟩ := info_parts info32
  go_enter Tryd.func14, Tryd.ntmps14
  go_wp2_with (go_at_call 17; refine (seen_call A0 c0 l _ hr0 hc0 hl).mono ?_)
  rintro e w1 ⟨A1, c1, rfl, hS, hb1⟩
  have HS := Aside0.mk hS
  have HB1 := Aside0.mk hb1
  have hsl := seen_length l l.length
  clear hr0 hc0 hS hb1
  go_wp2_with fail
  go_loopw [3, 5, 6] (fun v f i wr => ∃ p j : Nat, p ≤ l.length ∧ (p = l.length ∨ rd l (p : Int) ≠ 5) ∧ i = .int .i64 j ∧ j = (Math.seen l p).length ∧ f = .int .i64 (cst l p).1 ∧ wr.ownsRow w1.heap.size 32 2 v (cst l p).2.length (cells2 (cst l p).2) ∧ Below w1.heap.size w1 wr) (fun _ _ i _ => (Math.seen l l.length).length - (intOf i).toNat)
  case atStart =>
    obtain ⟨p, _, h1, h2, h3, h4⟩ := next_seen l l.length 0 (by omega)
    refine ⟨p, 0, h1, h2, rfl, by rw [h3]; rfl, by rw [h4]; rfl, by rw [h4]; exact World.ownsRow_nil _ _ _ _, Below.refl _ _⟩
  case round =>
    obtain ⟨p, j, hp, hq, rfl, hj, rfl, hown, hb⟩ := hrel
    obtain ⟨hfr0, hfr1, hout⟩ := cst_le l p
    have hsz1 : w1.heap.size ≤ wr.heap.size := hb.size
    have HSr := Aside0.mk (Kd.C_below HS.out hb)
    have HRr := Aside0.mk (Kd.C_below (Kd.C_below HR0.out HB1.out) hb)
    by_cases hlt : j < (Math.seen l l.length).length
    · have hpl : p < l.length := by
        rcases Nat.lt_or_ge p l.length with h | h
        · exact h
        · obtain rfl : p = l.length := by omega
          omega
      have h5 : rd l (p : Int) ≠ 5 := by
        rcases hq with h | h
        · omega
        · exact h
      obtain ⟨hs1, hs2⟩ := seen_at l l.length p hpl h5
      rw [← hj] at hs2
      obtain ⟨p', hp1, hp2, hp3, hp4⟩ := after_seen l p hpl h5
      rw [← hj] at hp3
      have HP2 := Lib.hid hp2
      have HP3 := Lib.hid hp3
      have HP4 := Lib.hid hp4
      clear hp2 hp3 hp4
      obtain ⟨ad1, e1, hx1⟩ := Kd.at_int HSr.out (j : Int) (by omega) (by omega)
      obtain ⟨ad0, e0, hx0⟩ := Kd.at_int HRr.out (p : Int) (by omega) (by omega)
      subst e1
      subst e0
      rw [Int.toNat_natCast] at hx1 hx0
      rw [hs2] at hx1
      have HJ := Lib.hid hj
      have HS2 := Lib.hid hs2
      have HX0 := Lib.hid hx0
      have H5 := Lib.hid h5
      clear hj hs2 hq hx0 h5
      have b1 : (0 : Int) ≤ (j : Int) := by omega
      have b2 : (j : Int) < ((Math.seen l l.length).length : Int) := by omega
      by_cases hfp : (cst l p).1 < (p : Int)
      · have hdf : decide ((cst l p).1 < (p : Int)) = true := by simpa using hfp
        by_cases hj0 : j = 0
        · have hdj : decide (0 < j) = false := by simp; omega
          have hjn : jn (lf l p) (rd l (p : Int)) = false := by rw [lf_none l p hp (by rw [← HJ.out]; exact hj0)]; exact jn_zero_left _
          have HC := Lib.hid (cst_yes l p H5.out hjn hfp)
          clear hjn hj0
          go_wp2
          go_quiet (fail)
          go_wp2_with (at_builtin; refine wpList_append_own _ rfl _ _ 29 rfl w1.heap.size 32 i0 (.agg #[.int .i64 0, .int .i64 0]) 2 16 Tryd.underlying29 hi hz0 hz1 hz2 rfl (by decide) _ _ _ rfl ((show (wr.drewN nq).ownsRow w1.heap.size 32 2 u3 _ _ from hown).alloc _) ⟨wr.heap.size, 0, none⟩ 1 1 [.int .i64 (cst l p).1, .int .i64 (p : Int)] rfl rfl ?c1 ?c2 ?c3 ?c4 ?c5 ?_)
          case c1 => exact two_new _ _ _
          case c2 => intro u hu; simp at hu; rcases hu with rfl | rfl <;> rfl
          case c3 => unfold maxLen; omega
          case c4 => omega
          case c5 => simp; omega
          intro v' w2 hown1 hgrow1 _
          have hb2 : Below w1.heap.size w1 w2 := (below_alloc_le (pw_below_drewN hb nq) (by exact hsz1) _).grown hgrow1 (by simp; omega) (fun j hj => (hown.lt j hj).1)
          obtain ⟨ad1', e1, hx1'⟩ := Kd.at_int (Kd.C_below HS.out hb2) (j : Int) (by omega) (by omega)
          obtain rfl : ad1 = ad1' := by injection e1
          rw [Int.toNat_natCast, HS2.out] at hx1'
          clear e1
          go_wp2
          go_roundw
          case rel => exact ⟨p', j + 1, hp1, HP2.out, by go_num, HP3.out.symm, by rw [HP4.out, HC.out], by rw [HP4.out, HC.out]; simpa [cells2] using hown1, hb2⟩
          case measure => simp [intOf]; omega
        · have hprev := prev_seen l p hp (by rw [← HJ.out]; exact hj0)
          rw [← HJ.out] at hprev
          obtain ⟨m, rfl⟩ : ∃ m, j = m + 1 := ⟨j - 1, by omega⟩
          rw [Nat.add_sub_cancel] at hprev
          obtain ⟨q0, q1, q2⟩ := hprev
          obtain ⟨q, hq⟩ := Int.eq_ofNat_of_zero_le q0
          rw [hq] at q1 q2
          obtain ⟨ad1', e1, hx2⟩ := Kd.at_int HSr.out (m : Int) (by omega) (by omega)
          obtain ⟨ad0', e0, hx3⟩ := Kd.at_int HRr.out (q : Int) (by omega) (by omega)
          obtain rfl : ad1 = ad1' := by injection e1
          obtain rfl : ad0 = ad0' := by injection e0
          rw [Int.toNat_natCast] at hx2 hx3
          rw [hq] at hx2
          rw [q2] at hx3
          have hsum : IntKind.i64.wrap (m : Int) = (m : Int) := IntWalk.i64_in _ (by omega)
          have b3 : (0 : Int) ≤ (m : Int) := by omega
          have b4 : (m : Int) < ((Math.seen l l.length).length : Int) := by omega
          have b5 : (0 : Int) ≤ (m : Int) + 1 := by omega
          have b6 : (m : Int) + 1 < ((Math.seen l l.length).length : Int) := by omega
          have hnat : ((m : Int) + 1).toNat = m + 1 := by omega
          have HX0' := HX0.out
          have b7 : (0 : Int) ≤ (p : Int) := by omega
          have b8 : (p : Int) < (l.length : Int) := by omega
          have b9 : (0 : Int) ≤ (q : Int) := by omega
          have b10 : (q : Int) < (l.length : Int) := by omega
          have hx1' : wr.cell? ⟨ad1.block, ad1.off + (m + 1), none⟩ = some (.int .i64 (p : Int)) := by simpa [Addr.add] using hx1
          have HSUM := Lib.hid hsum
          have HNAT := Lib.hid hnat
          clear hq q2 hj0 e1 e0 q0 q1 hx1 hsum hnat
          cases hjn : jn (lf l p) (rd l (p : Int))
          · have HC := Lib.hid (cst_yes l p H5.out hjn hfp)
            have HJN := Lib.hid hjn
            have hsum := HSUM.out
            have hnat := HNAT.out
            clear hjn
            go_wp2
            go_quiet ((go_at_call 9; exact Calls.quiet_of (ref_joins_quiet _ _ _ HJN.out _)))
            clear hsum hnat
            go_wp2_with (at_builtin; refine wpList_append_own _ rfl _ _ 29 rfl w1.heap.size 32 i0 (.agg #[.int .i64 0, .int .i64 0]) 2 16 Tryd.underlying29 hi hz0 hz1 hz2 rfl (by decide) _ _ _ rfl ((show (wr.drewN nq).ownsRow w1.heap.size 32 2 u3 _ _ from hown).alloc _) ⟨wr.heap.size, 0, none⟩ 1 1 [.int .i64 (cst l p).1, .int .i64 (p : Int)] rfl rfl ?c1 ?c2 ?c3 ?c4 ?c5 ?_)
            case c1 => exact two_new _ _ _
            case c2 => intro u hu; simp at hu; rcases hu with rfl | rfl <;> rfl
            case c3 => unfold maxLen; omega
            case c4 => omega
            case c5 => simp; omega
            intro v' w2 hown1 hgrow1 _
            have hb2 : Below w1.heap.size w1 w2 := (below_alloc_le (pw_below_drewN hb nq) (by exact hsz1) _).grown hgrow1 (by simp; omega) (fun j hj => (hown.lt j hj).1)
            obtain ⟨ad1'', e1, hx1''⟩ := Kd.at_int (Kd.C_below HS.out hb2) ((m + 1 : Nat) : Int) (by omega) (by omega)
            obtain rfl : ad1 = ad1'' := by injection e1
            rw [Int.toNat_natCast, HS2.out] at hx1''
            have hx1''' : w2.cell? ⟨ad1.block, ad1.off + (m + 1), none⟩ = some (.int .i64 (p : Int)) := by simpa [Addr.add] using hx1''
            clear e1 hx1''
            go_wp2
            go_roundw
            case rel => exact ⟨p', m + 1 + 1, hp1, HP2.out, by go_num, HP3.out.symm, by rw [HP4.out, HC.out], by rw [HP4.out, HC.out]; simpa [cells2] using hown1, hb2⟩
            case measure => simp [intOf]; omega
          · have HC := Lib.hid (cst_no l p (.inl hjn))
            have HJN := Lib.hid hjn
            have hsum := HSUM.out
            have hnat := HNAT.out
            clear hjn
            go_wp2
            go_quiet ((go_at_call 9; exact Calls.quiet_of (ref_joins_quiet _ _ _ HJN.out _)))
            clear hsum hnat
            go_wp2
            go_roundw
            case rel => exact ⟨p', m + 1 + 1, hp1, HP2.out, by go_num, HP3.out.symm, by rw [HP4.out, HC.out], by rw [HP4.out, HC.out]; exact hown, pw_below_drewN hb nq⟩
            case measure => simp [intOf]; omega
      · have hdf : decide ((cst l p).1 < (p : Int)) = false := by simpa using hfp
        have HC := Lib.hid (cst_no l p (.inr hfp))
        clear hfp
        go_wp2
        go_quiet (fail)
        go_wp2
        go_roundw
        case rel => exact ⟨p', j + 1, hp1, HP2.out, by go_num, HP3.out.symm, by rw [HP4.out, HC.out], by rw [HP4.out, HC.out]; exact hown, pw_below_drewN hb nq⟩
        case measure => simp [intOf]; omega
    · have hpn : p = l.length := by
        rcases hq with h | h
        · exact h
        · rcases Nat.lt_or_ge p l.length with h' | h'
          · have := (seen_at l l.length p h' h).1; omega
          · omega
      subst hpn
      clear hq hj
      by_cases hcut : (cst l l.length).1 < l.length
      · have hdf : decide ((cst l l.length).1 < (l.length : Int)) = true := by simpa using hcut
        have HC := Lib.hid (show cuts l = _ from if_pos hcut)
        go_wp2_with (at_builtin; refine wpList_append_own _ rfl _ _ 29 rfl w1.heap.size 32 i0 (.agg #[.int .i64 0, .int .i64 0]) 2 16 Tryd.underlying29 hi hz0 hz1 hz2 rfl (by decide) _ _ _ rfl (hown.alloc _) ⟨wr.heap.size, 0, none⟩ 1 1 [.int .i64 (cst l l.length).1, .int .i64 (l.length : Int)] rfl rfl ?c1 ?c2 ?c3 ?c4 ?c5 ?_)
        case c1 => exact two_new _ _ _
        case c2 => intro u hu; simp at hu; rcases hu with rfl | rfl <;> rfl
        case c3 => unfold maxLen; omega
        case c4 => omega
        case c5 => simp; omega
        intro v' w2 hown1 hgrow1 _
        have hb2 : Below w1.heap.size w1 w2 := (below_alloc_le hb (by exact hsz1) _).grown hgrow1 (by simp; omega) (fun j hj => (hown.lt j hj).1)
        have hB := HB1.out.size
        go_wp2
        go_ret
        exact ⟨_, rfl, by rw [HC.out]; simpa [cells2] using own_less hown1 hB, below_step HB1.out hb2⟩
      · have hdf : decide ((cst l l.length).1 < (l.length : Int)) = false := by simpa using hcut
        have HC := Lib.hid (show cuts l = _ from if_neg hcut)
        have hB := HB1.out.size
        go_wp2
        go_ret
        exact ⟨_, rfl, by rw [HC.out]; exact own_less hown hB, below_step HB1.out hb⟩
end Go.Proofs.YtdaeombjdagnbaaDoor
