/- What the call of the reference's Roles does: the same roles. Conditions: the list's numbers are of their kind, at most 300 of them. -/
import Derived.Test.YtloidjfcelbpmaaDoorRoles
import Derived.IntWalk
namespace Go.Proofs.YtloidjfcelbpmaaDoor
open Go.RowKit Go.Proofs.YtloidjfcelbpmaaDoorW.PrintWords Go.Proofs.YtloidjfcelbpmaaDoorW.PrintLast Go.Proofs.YtloidjfcelbpmaaDoorW.PrintMore
open PHangulParts

theorem ref_kind_eq (c v : Int) (hv : kind c = v) (w : World) : Calls Tryd.prog 11 #[.int .i32 c] w fun e w' => e = .returned (.int .i64 v) ∧ Drawn0 w w' := by
  subst hv
  exact ref_kind_call c w

set_option maxHeartbeats 3200000 in
set_option maxRecDepth 100000 in
theorem ref_roles_any (A : Option Addr) (c : Nat) (l : List Int) (hl : l.length ≤ 300) (w : World) (hr : Kd.C (Kd.int .i32) w A l.length l) :
    Calls Tryd.prog 19 #[.slice A l.length c] w fun e w' => ∃ v, e = .returned v ∧ w'.ownsRow w.heap.size 3 1 v (rolesTo l (cutFrom l 0)).length (nums .i64 (rolesTo l (cutFrom l 0))) ∧ Below w.heap.size w w' := by
  obtain ⟨i0, hi, hz0, hz1, hz2⟩ := info_parts info3
  go_enter Tryd.func19, Tryd.ntmps19
  go_wp2_with (go_at_call 16; refine (ref_cut_any A c l (by omega) _ hr).mono ?_)
  rintro e w1 ⟨v1, rfl, ho1, hb1⟩
  have HR := Aside0.mk (Kd.C_below hr hb1)
  have hcl := cutFrom_length l 0
  clear hr
  rcases Nat.eq_zero_or_pos (cutFrom l 0).length with hz | hpos
  · have hnil : cutFrom l 0 = [] := List.length_eq_zero_iff.1 hz
    rw [hz] at ho1
    obtain ⟨A1, k1, rfl⟩ := own_slice ho1
    have HN := Aside0.mk hnil
    clear hz hnil
    go_wp2_with fail
    go_loopw [3, 5] (fun v i wr => v = .slice none 0 0 ∧ i = .int .i64 0 ∧ wr = w1) (fun _ _ _ => 0)
    case atStart => exact ⟨rfl, rfl, rfl⟩
    case round =>
      obtain ⟨rfl, rfl, rfl⟩ := hrel
      go_wp2
      go_ret
      exact ⟨_, rfl, by rw [HN.out]; exact World.ownsRow_nil _ _ _ _, hb1⟩
  · obtain ⟨g, k1, rfl, hg, hx⟩ := pairs_open ho1 rfl hpos
    have HX := Aside0.mk hx
    clear hx
    go_wp2_with fail
    go_loopw [3, 5] (fun v i wr => ∃ k : Nat, k ≤ (cutFrom l 0).length ∧ i = .int .i64 k ∧ (rolesTo l ((cutFrom l 0).take k)).length ≤ 3 * k ∧ wr.ownsRow w1.heap.size 3 1 v (rolesTo l ((cutFrom l 0).take k)).length (nums .i64 (rolesTo l ((cutFrom l 0).take k))) ∧ Below w1.heap.size w1 wr) (fun _ i _ => (cutFrom l 0).length - (intOf i).toNat)
    case atStart => exact ⟨0, Nat.zero_le _, rfl, by simp [rolesTo], by simpa [rolesTo, nums] using World.ownsRow_nil w1 w1.heap.size 3 1, Below.refl _ _⟩
    case round =>
      obtain ⟨k, hk, rfl, hlen, hown, hb⟩ := hrel
      by_cases hlt : k < (cutFrom l 0).length
      · obtain ⟨a, b, hab, h1, h2, h3⟩ := cut_at l k hlt
        obtain ⟨x1, x2⟩ := HX.out k hlt
        have hgd : (cutFrom l 0).getD k (0, 0) = ((a : Int), (b : Int)) := by rw [List.getD_eq_getElem?_getD, List.getElem?_eq_getElem hlt, hab]; rfl
        rw [hgd] at x1 x2
        have HY1 := Aside0.mk x1
        have HY2 := Aside0.mk x2
        have y1 := pw_cell_below hb x1
        have y2 := pw_cell_below hb x2
        have HSN := Aside0.mk (show rolesTo l ((cutFrom l 0).take (k + 1)) = rolesTo l ((cutFrom l 0).take k) ++ rolesOf l ((a : Int), (b : Int)) by rw [rolesTo_snoc l _ k hlt, hab])
        obtain ⟨R, hR⟩ : ∃ R, R = rolesTo l ((cutFrom l 0).take k) := ⟨_, rfl⟩
        rw [← hR] at hlen hown
        have HRR := Aside0.mk hR
        clear hab hgd x1 x2 hR
        obtain ⟨wo, rfl⟩ : ∃ wo : World, wo = wr := ⟨_, rfl⟩
        go_wp2
        clear y1 y2
        go_loopw [3, 6] (fun v i w2 => ∃ (j : Nat) (z : Int), j ≤ b - a ∧ z = (a : Int) + (j : Int) ∧ i = .int .i64 z ∧ (R ++ (rolesOf l ((a : Int), (b : Int))).take j).length ≤ 3 * k + j ∧ w2.ownsRow w1.heap.size 3 1 v (R ++ (rolesOf l ((a : Int), (b : Int))).take j).length (nums .i64 (R ++ (rolesOf l ((a : Int), (b : Int))).take j)) ∧ Below w1.heap.size w1 w2) (fun _ i _ => b - (intOf i).toNat)
        case atStart => exact ⟨0, (a : Int), Nat.zero_le _, by omega, rfl, by simpa using hlen, by simpa using hown, hb⟩
        case round =>
          obtain ⟨j, z, hj, hz, rfl, hlj, hown3, hb3⟩ := hrel
          have hsz3 := hb3.size
          have y1 := pw_cell_below hb3 HY1.out
          have y2 := pw_cell_below hb3 HY2.out
          by_cases hjl : j < b - a
          · obtain ⟨ad, hA, hcx⟩ := Kd.at_int (Kd.C_below HR.out hb3) z (by omega) (by omega)
            subst hA
            have htk := rolesOf_take l a b j hjl
            rw [show ((a + j : Nat) : Int) = z by omega] at htk
            obtain ⟨x, hx⟩ : ∃ x, x = rd l z := ⟨_, rfl⟩
            rw [← hx] at hcx htk
            obtain ⟨kk, hkk⟩ : ∃ kk, kind x = kk := ⟨_, rfl⟩
            rw [hkk] at htk
            have HKK := Aside0.mk hkk
            have HTK := Aside0.mk htk
            have b0 : (0 : Int) ≤ z := by omega
            have b1 : z < (l.length : Int) := by omega
            have b2 : z < (b : Int) := by omega
            have b3 : z ≤ 1000 := by omega
            have HZ := Aside0.mk hz
            clear hx hkk htk hz
            have hsum : IntKind.i64.wrap ((a : Int) + 1) = (a : Int) + 1 := IntWalk.i64_in _ (by omega)
            have HSUM := Aside0.mk hsum
            clear hsum
            by_cases h3k : 3 < kk
            · have hd : decide (3 < kk) = true := by simpa using h3k
              have HV := Aside0.mk (show rl kk (b - a) = 0 from if_pos (.inl h3k))
              clear h3k
              go_wp2_with (go_at_call 11; refine (ref_kind_eq x kk HKK.out _).mono ?_; rintro e w' ⟨rfl, ⟨n1, rfl⟩⟩)
              go_quiet (fail)
              go_wp2_with (at_builtin; refine wpList_append_own _ rfl _ _ 34 rfl w1.heap.size 3 i0 (.int .i64 0) 1 8 Tryd.underlying34 hi hz0 hz1 hz2 rfl (by decide) _ _ _ rfl ((pw_own_drewN hown3 _).alloc _) ⟨wr.heap.size, 0, none⟩ 1 1 [.int .i64 0] rfl rfl ?c1 ?c2 ?c3 ?c4 ?c5 ?_)
              case c1 => exact one_new _ _
              case c2 => intro u hu; simp at hu; subst hu; rfl
              case c3 => unfold maxLen; omega
              case c4 => omega
              case c5 => simp; omega
              intro v' w5 hown5 hgrow5 _
              have hb5 : Below w1.heap.size w1 w5 := ((pw_below_drewN hb3 (n1 + nq)).alloc (by exact hsz3) _).grown hgrow5 (by simp; omega) (fun j hj => (hown3.lt j hj).1)
              go_wp2
              go_roundw
              case rel => exact ⟨j + 1, z + 1, by omega, by have := HZ.out; omega, rfl, by simp; omega, by rw [HTK.out, HV.out]; simpa [nums, Nat.add_assoc] using hown5, hb5⟩
              case measure => simp [intOf]; omega
            · have hd : decide (3 < kk) = false := by simpa using h3k
              have hsum := HSUM.out
              by_cases hba : b = a + 1
              · have HV := Aside0.mk (show rl kk (b - a) = 0 from if_pos (.inr (by omega)))
                have hq : ((b : Int) == (a : Int) + 1) = true := by rw [beq_iff_eq]; omega
                have HBA := Aside0.mk hba
                clear h3k hba
                go_wp2_with (go_at_call 11; refine (ref_kind_eq x kk HKK.out _).mono ?_; rintro e w' ⟨rfl, ⟨n1, rfl⟩⟩)
                go_quiet (fail)
                go_wp2_with (at_builtin; refine wpList_append_own _ rfl _ _ 34 rfl w1.heap.size 3 i0 (.int .i64 0) 1 8 Tryd.underlying34 hi hz0 hz1 hz2 rfl (by decide) _ _ _ rfl ((pw_own_drewN hown3 _).alloc _) ⟨wr.heap.size, 0, none⟩ 1 1 [.int .i64 0] rfl rfl ?c1 ?c2 ?c3 ?c4 ?c5 ?_)
                case c1 => exact one_new _ _
                case c2 => intro u hu; simp at hu; subst hu; rfl
                case c3 => unfold maxLen; omega
                case c4 => omega
                case c5 => simp; omega
                intro v' w5 hown5 hgrow5 _
                have hb5 : Below w1.heap.size w1 w5 := ((pw_below_drewN hb3 (n1 + nq)).alloc (by exact hsz3) _).grown hgrow5 (by simp; omega) (fun j hj => (hown3.lt j hj).1)
                go_wp2
                go_roundw
                case rel => exact ⟨j + 1, z + 1, by omega, by have := HZ.out; omega, rfl, by simp; omega, by rw [HTK.out, HV.out]; simpa [nums, Nat.add_assoc] using hown5, hb5⟩
                case measure => simp [intOf]; omega
              · have HV := Aside0.mk (show rl kk (b - a) = kk from if_neg (fun h => by rcases h with h | h <;> omega))
                have hq : ((b : Int) == (a : Int) + 1) = false := by rw [beq_eq_false_iff_ne]; omega
                clear h3k hba
                go_wp2_with (go_at_call 11; refine (ref_kind_eq x kk HKK.out _).mono ?_; rintro e w' ⟨rfl, ⟨n1, rfl⟩⟩)
                go_quiet (fail)
                go_wp2_with (at_builtin; refine wpList_append_own _ rfl _ _ 34 rfl w1.heap.size 3 i0 (.int .i64 0) 1 8 Tryd.underlying34 hi hz0 hz1 hz2 rfl (by decide) _ _ _ rfl ((pw_own_drewN hown3 _).alloc _) ⟨wr.heap.size, 0, none⟩ 1 1 [.int .i64 kk] rfl rfl ?c1 ?c2 ?c3 ?c4 ?c5 ?_)
                case c1 => exact one_new _ _
                case c2 => intro u hu; simp at hu; subst hu; rfl
                case c3 => unfold maxLen; omega
                case c4 => omega
                case c5 => simp; omega
                intro v' w5 hown5 hgrow5 _
                have hb5 : Below w1.heap.size w1 w5 := ((pw_below_drewN hb3 (n1 + nq)).alloc (by exact hsz3) _).grown hgrow5 (by simp; omega) (fun j hj => (hown3.lt j hj).1)
                go_wp2
                go_roundw
                case rel => exact ⟨j + 1, z + 1, by omega, by have := HZ.out; omega, rfl, by simp; omega, by rw [HTK.out, HV.out]; simpa [nums, Nat.add_assoc] using hown5, hb5⟩
                case measure => simp [intOf]; omega
          · have he : j = b - a := by omega
            have HALL := Aside0.mk (show R ++ (rolesOf l ((a : Int), (b : Int))).take j = rolesTo l ((cutFrom l 0).take (k + 1)) by rw [HSN.out, he, rolesOf_all, HRR.out])
            have b2 : ¬ z < (b : Int) := by omega
            clear he hz
            rw [HALL.out] at hown3 hlj
            go_wp2
            go_roundw
            case rel => exact ⟨k + 1, by omega, by go_num, by omega, hown3, hb3⟩
            case measure => simp [intOf]; omega
      · have HALL := Aside0.mk (show rolesTo l ((cutFrom l 0).take k) = rolesTo l (cutFrom l 0) by rw [List.take_of_length_le (by omega)])
        have hB := hb1.size
        go_wp2
        go_ret
        exact ⟨_, rfl, by rw [← HALL.out]; exact own_less hown hB, below_step hb1 hb⟩
end Go.Proofs.YtloidjfcelbpmaaDoor
