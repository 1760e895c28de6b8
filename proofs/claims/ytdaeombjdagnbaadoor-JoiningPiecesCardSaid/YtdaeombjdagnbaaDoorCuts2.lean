/- What the call of Cuts does: its pieces are those of 'cuts'. Condition: the list has at most 1000 elements. -/
import Derived.Test.YtdaeombjdagnbaaDoorCuts
namespace Go.Proofs.YtdaeombjdagnbaaDoor
open Go.RowKit Go.Proofs.YtdaeombjdagnbaaDoorW.PrintWords Go.Proofs.YtdaeombjdagnbaaDoorW.PrintLast Go.Proofs.YtdaeombjdagnbaaDoorW.PrintMore
open PJoiningForms Math

/-- Where the piece at hand began, and the pieces, ahead of place m. -/
def cst (l : List Int) : Nat → Int × List (Int × Int)
  | 0 => (0, [])
  | m + 1 => if rd l (m : Int) ≠ 5 ∧ jn (lf l m) (rd l (m : Int)) = false ∧ (cst l m).1 < m then ((m : Int), (cst l m).2 ++ [((cst l m).1, (m : Int))]) else cst l m
def cuts (l : List Int) : List (Int × Int) := if (cst l l.length).1 < l.length then (cst l l.length).2 ++ [((cst l l.length).1, (l.length : Int))] else (cst l l.length).2
theorem cst_le (l : List Int) (m : Nat) : 0 ≤ (cst l m).1 ∧ (cst l m).1 ≤ m ∧ (cst l m).2.length ≤ m := by
  induction m with
  | zero => simp [cst]
  | succ m ih =>
    unfold cst
    by_cases h : rd l (m : Int) ≠ 5 ∧ jn (lf l m) (rd l (m : Int)) = false ∧ (cst l m).1 < m
    · rw [if_pos h]
      refine ⟨by simp, by simp; omega, by simp; omega⟩
    · rw [if_neg h]; omega

theorem Inv.drewN {B gf go : Nat} {frm : Int} {out : List (Int × Int)} {w : World} (h : Inv B gf go frm out w) (n : Nat) : Inv B gf go frm out (w.drewN n) := ⟨h.lo, h.lo', h.hf, h.ho⟩

set_option maxHeartbeats 1600000 in
set_option maxRecDepth 100000 in
theorem cuts_any (A0 : Option Addr) (c0 : Nat) (l : List Int) (w : World) (hr0 : Kd.C (Kd.int .i64) w A0 l.length l) (hc0 : l.length ≤ c0) (hl : l.length ≤ 1000) :
    Calls Tryd.prog 13 #[.slice A0 l.length c0] w fun e w' => ∃ v, e = .returned v ∧ w'.ownsRow w.heap.size 32 2 v (cuts l).length (cells2 (cuts l)) ∧ Below w.heap.size w w' := by
  have HR0 := Aside0.mk hr0
  have HC0 := Aside0.mk hc0
  clear hr0 hc0
  go_enter Tryd.func13, Tryd.ntmps13
  go_wp2
  go_loopw [11] (fun i wr => ∃ k : Nat, k ≤ l.length ∧ i = .int .i64 k ∧ Inv w.heap.size (w.heap.size + 1) w.heap.size (cst l k).1 (cst l k).2 wr ∧ Below w.heap.size w wr) (fun i _ => l.length - (intOf i).toNat)
  case atStart =>
    exact ⟨0, Nat.zero_le _, rfl, ⟨by omega, by omega, by simpa [cst] using heap_alloc_new (w.alloc (.cells #[.slice none 0 0] 29)) (.cells #[.int .i64 0] 3), _, (Below.heap_alloc _ _ _ (by simp)).trans (heap_alloc_new w _), World.ownsRow_nil _ _ _ _⟩, ((Below.refl _ w).alloc (Nat.le_refl _) _).alloc (by simp) _⟩
  case round =>
    obtain ⟨k, hk, rfl, hinv, hb⟩ := hrel
    obtain ⟨hfr0, hfr1, hout⟩ := cst_le l k
    have HC := Aside0.mk (Kd.C_below HR0.out hb)
    by_cases hlt : k < l.length
    · obtain ⟨ad, hA, hx⟩ := Kd.at_int HC.out (k : Int) (by omega) (by omega)
      subst hA
      rw [Int.toNat_natCast] at hx
      have HS := Lib.hid (show cst l (k + 1) = _ from rfl)
      by_cases h5 : rd l (k : Int) = 5
      · have HS' := Lib.hid (HS.out.trans (if_neg (fun h => h.1 h5)))
        have hne : (rd l (k : Int) != 5) = false := by simp [h5]
        clear HS h5
        go_wp2
        go_roundw
        case rel => exact ⟨k + 1, by omega, by go_num, by rw [HS'.out]; exact hinv, hb⟩
        case measure => simp [intOf]; omega
      · have hne : (rd l (k : Int) != 5) = true := by simp [h5]
        have HN := Lib.hid (left_f l (by omega) k (2 * l.length + 2) (by omega) (Nat.le_refl _))
        have HJ := Lib.hid (joins_f (lf l k) (rd l (k : Int)))
        by_cases hj : jn (lf l k) (rd l (k : Int)) = true
        · have HS' := Lib.hid (HS.out.trans (if_neg (fun h => by rw [hj] at h; exact absurd h.2.1 (by decide))))
          have HJ' := Lib.hid (HJ.out.trans (congrArg some hj))
          clear HS h5 hj HJ
          go_wp2_with (first | (go_at_call 19; refine (joining_neighbour.calls _ _ _ l _ _ _ _ HC.out HC0.out HN.out).mono ?_; rintro e w' ⟨rfl, ⟨nd, rfl⟩⟩) | (go_at_call 8; refine (joining_Joins.calls _ _ _ _ HJ'.out).mono ?_; rintro e w' ⟨rfl, ⟨nd, rfl⟩⟩))
          go_roundw
          case rel => exact ⟨k + 1, by omega, by go_num, by rw [HS'.out]; first | exact hinv.drewN _ | exact (hinv.drewN _).drewN _, by first | exact pw_below_drewN hb _ | exact pw_below_drewN (pw_below_drewN hb _) _⟩
          case measure => simp [intOf]; omega
        · have hjf : jn (lf l k) (rd l (k : Int)) = false := by simpa using hj
          have HJ' := Lib.hid (HJ.out.trans (congrArg some hjf))
          by_cases hcut : (cst l k).1 < k
          · have HS' := Lib.hid (HS.out.trans (if_pos ⟨h5, hjf, hcut⟩))
            have HI := Lib.hid (fun n => cut_yes _ _ _ _ (k : Int) _ _ (hinv.drewN n) hcut (by omega))
            clear HS h5 hj HJ hjf
            go_wp2_with (first | (go_at_call 19; refine (joining_neighbour.calls _ _ _ l _ _ _ _ HC.out HC0.out HN.out).mono ?_; rintro e w' ⟨rfl, ⟨nd, rfl⟩⟩) | (go_at_call 8; refine (joining_Joins.calls _ _ _ _ HJ'.out).mono ?_; rintro e w' ⟨rfl, ⟨nd', rfl⟩⟩) | (go_at_call 18; refine (HI.out _).mono ?_; rintro e w2 ⟨rfl, hinv2, hb2⟩))
            go_roundw
            case rel => exact ⟨k + 1, by omega, by go_num, by rw [HS'.out]; assumption, (pw_below_drewN hb _).trans (by assumption)⟩
            case measure => simp [intOf]; omega
          · have HS' := Lib.hid (HS.out.trans (if_neg (fun h => hcut h.2.2)))
            have HI := Lib.hid (fun n => cut_no _ _ _ _ (k : Int) _ _ (hinv.drewN n) (by omega))
            clear HS h5 hj HJ hjf
            go_wp2_with (first | (go_at_call 19; refine (joining_neighbour.calls _ _ _ l _ _ _ _ HC.out HC0.out HN.out).mono ?_; rintro e w' ⟨rfl, ⟨nd, rfl⟩⟩) | (go_at_call 8; refine (joining_Joins.calls _ _ _ _ HJ'.out).mono ?_; rintro e w' ⟨rfl, ⟨nd', rfl⟩⟩) | (go_at_call 18; refine (HI.out _).mono ?_; rintro e w2 ⟨rfl, rfl⟩))
            go_roundw
            case rel => exact ⟨k + 1, by omega, by go_num, by rw [HS'.out]; exact hinv.drewN _, pw_below_drewN hb _⟩
            case measure => simp [intOf]; omega
    · obtain rfl : k = l.length := by omega
      by_cases hcut : (cst l l.length).1 < l.length
      · have HS' := Lib.hid (show cuts l = _ from if_pos hcut)
        have HI := Lib.hid (cut_yes _ _ _ _ (l.length : Int) _ _ hinv hcut (by omega))
        go_wp2_with (go_at_call 18; refine HI.out.mono ?_; rintro e w2 ⟨rfl, hinv2, hb2⟩; obtain ⟨v2, ho2, hown2⟩ := hinv2.ho; have cO := cell_of_one ho2)
        go_ret
        exact ⟨_, rfl, by rw [HS'.out]; assumption, hb.trans (by assumption)⟩
      · have HS' := Lib.hid (show cuts l = _ from if_neg hcut)
        have HI := Lib.hid (cut_no _ _ _ _ (l.length : Int) _ _ hinv (by omega))
        obtain ⟨v2, ho2, hown2⟩ := hinv.ho
        have cO := cell_of_one ho2
        go_wp2_with (go_at_call 18; refine HI.out.mono ?_; rintro e w2 ⟨rfl, rfl⟩)
        go_ret
        exact ⟨_, rfl, by rw [HS'.out]; exact hown2, hb⟩
end Go.Proofs.YtdaeombjdagnbaaDoor
