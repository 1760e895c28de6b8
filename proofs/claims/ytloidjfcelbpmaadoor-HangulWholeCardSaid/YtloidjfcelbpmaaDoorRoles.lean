/- What the calls of Roles and of the reference's Roles do: the same roles. Conditions: the table's block; the list's numbers are of their kind, at most 300 of them. -/
import Derived.Test.YtloidjfcelbpmaaDoorCut
import Derived.Deep.QuietTactic
import Derived.BigQuiet
namespace Go.Proofs.YtloidjfcelbpmaaDoor
open Go.RowKit Go.Proofs.YtloidjfcelbpmaaDoorW.PrintWords Go.Proofs.YtloidjfcelbpmaaDoorW.PrintLast Go.Proofs.YtloidjfcelbpmaaDoorW.PrintMore
open PHangulParts

theorem pairs_open {w : World} {B n : Nat} {v : Value} {cs : List (Int × Int)} (h : w.ownsRow B 32 2 v n (cells2 cs)) (hn : n = cs.length) (h0 : 0 < n) :
    ∃ g cap, v = .slice (some ⟨g, 0, none⟩) n cap ∧ B ≤ g ∧ ∀ i : Nat, i < n → w.cell? ⟨g, i * 2, none⟩ = some (.int .i64 (cs.getD i (0, 0)).1) ∧ w.cell? ⟨g, i * 2 + 1, none⟩ = some (.int .i64 (cs.getD i (0, 0)).2) := by
  obtain ⟨g, cap, hv, hB, hlt⟩ := h.form h0
  refine ⟨g, cap, hv, hB, fun i hi => ?_⟩
  have hc := h.cells (g := g) (by rw [hv]; rfl)
  have hat : ∀ (l : List (Int × Int)) (i : Nat), i < l.length → (cells2 l)[i * 2]? = some (.int .i64 (l.getD i (0, 0)).1) ∧ (cells2 l)[i * 2 + 1]? = some (.int .i64 (l.getD i (0, 0)).2) := by
    intro l
    induction l with
    | nil => intro i hi; simp at hi
    | cons x r ih =>
      intro i hi
      cases i with
      | zero => simp [cells2]
      | succ i =>
        obtain ⟨h1, h2⟩ := ih i (by simpa using hi)
        have e1 : cells2 (x :: r) = .int .i64 x.1 :: .int .i64 x.2 :: cells2 r := by simp [cells2]
        rw [e1, show (i + 1) * 2 = i * 2 + 1 + 1 by omega, show i * 2 + 1 + 1 + 1 = (i * 2 + 1) + 1 + 1 by omega]
        simp only [List.getElem?_cons_succ, List.getD_cons_succ]
        exact ⟨h1, h2⟩
  obtain ⟨h1, h2⟩ := hat cs i (by omega)
  have a1 := hc _ _ h1
  have a2 := hc _ _ h2
  rw [add_plain] at a1 a2
  exact ⟨a1, a2⟩

/-- The role of a code of a block of n. -/
def rl (k : Int) (n : Nat) : Int := if 3 < k ∨ n = 1 then 0 else k
def rolesOf (l : List Int) (q : Int × Int) : List Int := (List.range (q.2 - q.1).toNat).map fun (j : Nat) => rl (kind (rd l (q.1 + (j : Int)))) (q.2 - q.1).toNat
def rolesTo (l : List Int) (cs : List (Int × Int)) : List Int := cs.flatMap (rolesOf l)
theorem rolesTo_snoc (l : List Int) (cs : List (Int × Int)) (k : Nat) (h : k < cs.length) : rolesTo l (cs.take (k + 1)) = rolesTo l (cs.take k) ++ rolesOf l cs[k] := by
  unfold rolesTo
  rw [List.take_succ_eq_append_getElem h, List.flatMap_append, List.flatMap_cons, List.flatMap_nil, List.append_nil]
theorem rolesOf_at (l : List Int) (a b : Nat) : rolesOf l ((a : Int), (b : Int)) = (List.range (b - a)).map fun (j : Nat) => rl (kind (rd l ((a + j : Nat) : Int))) (b - a) := by
  unfold rolesOf
  have e : ((b : Int) - (a : Int)).toNat = b - a := by omega
  simp only [e]
  apply List.map_congr_left
  intro j _
  rw [show (a : Int) + (j : Int) = ((a + j : Nat) : Int) by omega]
theorem rolesOf_take (l : List Int) (a b j : Nat) (h : j < b - a) : (rolesOf l ((a : Int), (b : Int))).take (j + 1) = (rolesOf l ((a : Int), (b : Int))).take j ++ [rl (kind (rd l ((a + j : Nat) : Int))) (b - a)] := by
  rw [rolesOf_at, List.take_succ_eq_append_getElem (by simpa using h)]
  congr 2
  simp
theorem rolesOf_all (l : List Int) (a b : Nat) : (rolesOf l ((a : Int), (b : Int))).take (b - a) = rolesOf l ((a : Int), (b : Int)) := by
  rw [rolesOf_at, List.take_of_length_le (by simp)]
theorem cutF_mem (l : List Int) : ∀ d p q, q ∈ cutF l d p → ∃ a b : Nat, q = ((a : Int), (b : Int)) ∧ a < b ∧ b ≤ l.length ∧ b ≤ a + 3 ∧ b = a + blk (l.drop a)
  | 0, _, _, h => by simp [cutF] at h
  | d + 1, p, q, h => by
    unfold cutF at h
    split at h
    · rename_i hp
      have hb := blk_drop l p hp
      rcases List.mem_cons.1 h with rfl | h
      · exact ⟨p, _, rfl, by omega, by omega, by omega, rfl⟩
      · exact cutF_mem l d _ q h
    · simp at h
theorem cut_at (l : List Int) (k : Nat) (h : k < (cutFrom l 0).length) : ∃ a b : Nat, (cutFrom l 0)[k] = ((a : Int), (b : Int)) ∧ a < b ∧ b ≤ l.length ∧ b ≤ a + 3 := by
  obtain ⟨a, b, h1, h2, h3, h4, _⟩ := cutF_mem l _ _ _ (List.getElem_mem h)
  exact ⟨a, b, h1, h2, h3, h4⟩
theorem sub_C {w : World} {k : IntKind} {ad : Addr} {l : List Int} (h : Kd.C (Kd.int k) w (some ad) l.length l) (a b cap : Nat) (hab : a ≤ b) (hb : b ≤ l.length) (hc : l.length ≤ cap) :
    Kd.C (Kd.int k) w (if cap = a then some ad else some (ad.add a)) (b - a) ((l.drop a).take (b - a)) := by
  have h1 := Kd.C_drop h (m := a) (c := cap) (by omega) hc
  have h2 := Kd.C_take h1 (m := b - a) (by rw [List.length_drop]; omega)
  have e : ((l.drop a).take (b - a)).length = b - a := by rw [List.length_take, List.length_drop]; omega
  rw [e] at h2
  have e2 : a * (Kd.int k).sz = a := Nat.mul_one a
  rw [e2] at h2
  exact h2
theorem rd_sub (l : List Int) (a b j : Nat) (h : j < b - a) : rd ((l.drop a).take (b - a)) (j : Int) = rd l ((a + j : Nat) : Int) := by
  simp only [rd, Int.toNat_natCast, List.getD_eq_getElem?_getD]
  rw [List.getElem?_take, if_pos h, List.getElem?_drop]
theorem info3 : (Tryd.prog.info? 3).map (fun i => (i.zero, i.size, i.bytes)) = some (some (.int .i64 0), 1, 8) := by kernel_rfl
theorem one_new (W : World) (x : Int) : ∀ j u, ([.int .i64 x] : List Value)[j]? = some u → (W.alloc (.cells #[.int .i64 x] 3)).cell? ((⟨W.heap.size, 0, none⟩ : Addr).add j) = some u := by
  intro j u hj
  match j, hj with
  | 0, hj => simp at hj; subst hj; simp [Addr.add]
theorem kind_call (c v : Int) (hv : kind c = v) (hc : ok32 c) (w : World) (hT : Table w) : Calls Tryd.prog 10 #[.int .i32 c] w fun e w' => e = .returned (.int .i64 v) ∧ Below w.heap.size w w' := by
  subst hv
  exact kind_any c hc.1 hc.2 w hT

set_option maxHeartbeats 3200000 in
set_option maxRecDepth 100000 in
theorem roles_any (A : Option Addr) (c : Nat) (l : List Int) (hc : l.length ≤ c) (hok : AllOk l) (hl : l.length ≤ 300) (w : World) (hT : Table w) (hr : Kd.C (Kd.int .i32) w A l.length l) :
    Calls Tryd.prog 18 #[.slice A l.length c] w fun e w' => ∃ v, e = .returned v ∧ w'.ownsRow w.heap.size 3 1 v (rolesTo l (cutFrom l 0)).length (nums .i64 (rolesTo l (cutFrom l 0))) ∧ Below w.heap.size w w' := by
  obtain ⟨i0, hi, hz0, hz1, hz2⟩ := info_parts info3
  have HT := Aside0.mk hT
  have HP := Aside0.mk hT.pos
  go_enter Tryd.func18, Tryd.ntmps18
  go_wp2_with (go_at_call 15; refine (cut_any A c l hc hok (by omega) _ hT hr).mono ?_)
  rintro e w1 ⟨v1, rfl, ho1, hb1⟩
  have HR := Aside0.mk (Kd.C_below hr hb1)
  have HT1 := Aside0.mk (hT.below hT.pos hb1)
  have HP1 := Aside0.mk (Nat.lt_of_lt_of_le hT.pos hb1.size)
  have hcl := cutFrom_length l 0
  clear hr hT
  rcases Nat.eq_zero_or_pos (cutFrom l 0).length with hz | hpos
  · have hnil : cutFrom l 0 = [] := List.length_eq_zero_iff.1 hz
    rw [hz] at ho1
    obtain ⟨A1, k1, rfl⟩ := own_slice ho1
    have HN := Aside0.mk hnil
    clear hz hnil
    go_wp2_with fail
    go_loopw [3, 12] (fun v i wr => v = .slice none 0 0 ∧ i = .int .i64 0 ∧ wr = w1) (fun _ _ _ => 0)
    case atStart => exact ⟨rfl, rfl, rfl⟩
    case round =>
      obtain ⟨rfl, rfl, rfl⟩ := hrel
      go_wp2
      go_ret
      exact ⟨_, rfl, by rw [HN.out]; exact World.ownsRow_nil _ _ _ _, hb1⟩
  · obtain ⟨g, k1, rfl, hg, hx⟩ := pairs_open ho1 rfl hpos
    have HX := Aside0.mk hx
    clear hx
    go_wp2_with fail
    go_loopw [3, 12] (fun v i wr => ∃ k : Nat, k ≤ (cutFrom l 0).length ∧ i = .int .i64 k ∧ (rolesTo l ((cutFrom l 0).take k)).length ≤ 3 * k ∧ wr.ownsRow w1.heap.size 3 1 v (rolesTo l ((cutFrom l 0).take k)).length (nums .i64 (rolesTo l ((cutFrom l 0).take k))) ∧ Below w1.heap.size w1 wr) (fun _ i _ => (cutFrom l 0).length - (intOf i).toNat)
    case atStart => exact ⟨0, Nat.zero_le _, rfl, by simp [rolesTo], by simpa [rolesTo, nums] using World.ownsRow_nil w1 w1.heap.size 3 1, Below.refl _ _⟩
    case round =>
      obtain ⟨k, hk, rfl, hlen, hown, hb⟩ := hrel
      by_cases hlt : k < (cutFrom l 0).length
      · obtain ⟨a, b, hab, h1, h2, h3⟩ := cut_at l k hlt
        obtain ⟨x1, x2⟩ := HX.out k hlt
        have hgd : (cutFrom l 0).getD k (0, 0) = ((a : Int), (b : Int)) := by rw [List.getD_eq_getElem?_getD, List.getElem?_eq_getElem hlt, hab]; rfl
        rw [hgd] at x1 x2
        have y1 := pw_cell_below hb x1
        have y2 := pw_cell_below hb x2
        have HSN := Aside0.mk (show rolesTo l ((cutFrom l 0).take (k + 1)) = rolesTo l ((cutFrom l 0).take k) ++ rolesOf l ((a : Int), (b : Int)) by rw [rolesTo_snoc l _ k hlt, hab])
        obtain ⟨R, hR⟩ : ∃ R, R = rolesTo l ((cutFrom l 0).take k) := ⟨_, rfl⟩
        rw [← hR] at hlen hown
        have HRR := Aside0.mk hR
        obtain ⟨ad, hA, _⟩ := Kd.at_int HR.out (a : Int) (by omega) (by omega)
        subst hA
        have hne : ¬ c = a := by omega
        have q1 : (0 : Int) ≤ (a : Int) := by omega
        have q2 : (a : Int) ≤ (b : Int) := by omega
        have q3 : (b : Int) ≤ (c : Int) := by omega
        clear hab hgd x1 x2 hR
        obtain ⟨wo, rfl⟩ : ∃ wo : World, wo = wr := ⟨_, rfl⟩
        have hsz := hb.size
        go_wp2
        go_loopw [3, 23] (fun v i w2 => ∃ j : Nat, j ≤ b - a ∧ i = .int .i64 j ∧ (R ++ (rolesOf l ((a : Int), (b : Int))).take j).length ≤ 3 * k + j ∧ w2.ownsRow w1.heap.size 3 1 v (R ++ (rolesOf l ((a : Int), (b : Int))).take j).length (nums .i64 (R ++ (rolesOf l ((a : Int), (b : Int))).take j)) ∧ w2.heap[wo.heap.size]? = some (.cells #[.int .i64 (a : Int), .int .i64 (b : Int)] 32 (0, 0)) ∧ Below w1.heap.size w1 w2) (fun _ i _ => (b - a) - (intOf i).toNat)
        case atStart => exact ⟨0, Nat.zero_le _, rfl, by simpa using hlen, by simpa using hown.alloc _, heap_alloc_new wo _, hb.alloc hsz _⟩
        case round =>
          obtain ⟨j, hj, rfl, hlj, hown3, hbk3, hb3⟩ := hrel
          have hsz3 := hb3.size
          by_cases hjl : j < b - a
          · have hC3 := sub_C (Kd.C_below HR.out hb3) a b c (by omega) h2 hc
            rw [if_neg hne] at hC3
            obtain ⟨ad', e', hcx⟩ := Kd.at_int hC3 (j : Int) (by omega) (by omega)
            obtain rfl : ad.add a = ad' := by injection e'
            rw [Int.toNat_natCast, rd_sub l a b j hjl] at hcx
            have HOKx := Aside0.mk (hok.at_ (a + j) (by omega))
            have htk := rolesOf_take l a b j hjl
            obtain ⟨x, hx⟩ : ∃ x, x = rd l ((a + j : Nat) : Int) := ⟨_, rfl⟩
            rw [← hx] at hcx htk HOKx
            obtain ⟨kk, hkk⟩ : ∃ kk, kind x = kk := ⟨_, rfl⟩
            rw [hkk] at htk
            have HKK := Aside0.mk hkk
            have HTK := Aside0.mk htk
            clear hx hkk htk e'
            have c0 := blk_cell hbk3 0
            have c1 := blk_cell hbk3 1
            have b0 : (0 : Int) ≤ (j : Int) := by omega
            have b1 : (j : Int) < ((b - a : Nat) : Int) := by omega
            have HH := Aside0.mk (show Table _ from HT1.out.below HP1.out hb3)
            go_wp2_with fail
            refine (kind_call x kk HKK.out HOKx.out _ HH.out).mono ?_
            rintro e w4 ⟨rfl, hb4'⟩
            have hown4 := pw_own_below hown3 hb4'
            have hbk4 := (hb4'.block _ (lt_of_block hbk3)).trans hbk3
            have hb4 := below_step hb3 hb4'
            have hsz4 := hb4.size
            have d0 := blk_cell hbk4 0
            have d1 := blk_cell hbk4 1
            clear c0 c1 hcx hown3 hbk3
            by_cases h3k : 3 < kk
            · have hd : decide (3 < kk) = true := by simpa using h3k
              have HV := Aside0.mk (show rl kk (b - a) = 0 from if_pos (.inl h3k))
              clear h3k
              go_wp2_with (at_builtin; refine wpList_append_own _ rfl _ _ 34 rfl w1.heap.size 3 i0 (.int .i64 0) 1 8 Tryd.underlying34 hi hz0 hz1 hz2 rfl (by decide) _ _ _ rfl ((hown4).alloc _) ⟨w4.heap.size, 0, none⟩ 1 1 [.int .i64 0] rfl rfl ?c1 ?c2 ?c3 ?c4 ?c5 ?_)
              case c1 => exact one_new _ _
              case c2 => intro u hu; simp at hu; subst hu; rfl
              case c3 => unfold maxLen; omega
              case c4 => omega
              case c5 => simp; omega
              intro v' w5 hown5 hgrow5 _
              have hbk4a : (w4.alloc (.cells #[.int .i64 0] 3)).heap[wo.heap.size]? = some (.cells #[.int .i64 (a : Int), .int .i64 (b : Int)] 32 (0, 0)) := (Below.heap_alloc w4 _ _ (lt_of_block hbk4)).trans hbk4
              have hbk5 : w5.heap[wo.heap.size]? = some (.cells #[.int .i64 (a : Int), .int .i64 (b : Int)] 32 (0, 0)) := (hgrow5.block _ (lt_of_block hbk4a) (own_ne (hown4.alloc _) hbk4a (by decide))).trans hbk4a
              have hb5 : Below w1.heap.size w1 w5 := (hb4.alloc hb4.size _).grown hgrow5 (by simp; omega) (fun j hj => (hown4.lt j hj).1)
              go_wp2
              go_roundw
              case rel => exact ⟨j + 1, by omega, by go_num, by simp; omega, by rw [HTK.out, HV.out]; simpa [nums, Nat.add_assoc] using hown5, hbk5, hb5⟩
              case measure => simp [intOf]; omega
            · have hd : decide (3 < kk) = false := by simpa using h3k
              by_cases hba : b = a + 1
              · have HV := Aside0.mk (show rl kk (b - a) = 0 from if_pos (.inr (by omega)))
                have hq : ((b : Int) - (a : Int) == 1) = true := by rw [beq_iff_eq]; omega
                have HBA := Aside0.mk hba
                clear h3k hba
                go_wp2_with (at_builtin; refine wpList_append_own _ rfl _ _ 34 rfl w1.heap.size 3 i0 (.int .i64 0) 1 8 Tryd.underlying34 hi hz0 hz1 hz2 rfl (by decide) _ _ _ rfl ((hown4).alloc _) ⟨w4.heap.size, 0, none⟩ 1 1 [.int .i64 0] rfl rfl ?c1 ?c2 ?c3 ?c4 ?c5 ?_)
                case c1 => exact one_new _ _
                case c2 => intro u hu; simp at hu; subst hu; rfl
                case c3 => unfold maxLen; omega
                case c4 => omega
                case c5 => simp; omega
                intro v' w5 hown5 hgrow5 _
                have hbk4a : (w4.alloc (.cells #[.int .i64 0] 3)).heap[wo.heap.size]? = some (.cells #[.int .i64 (a : Int), .int .i64 (b : Int)] 32 (0, 0)) := (Below.heap_alloc w4 _ _ (lt_of_block hbk4)).trans hbk4
                have hbk5 : w5.heap[wo.heap.size]? = some (.cells #[.int .i64 (a : Int), .int .i64 (b : Int)] 32 (0, 0)) := (hgrow5.block _ (lt_of_block hbk4a) (own_ne (hown4.alloc _) hbk4a (by decide))).trans hbk4a
                have hb5 : Below w1.heap.size w1 w5 := (hb4.alloc hb4.size _).grown hgrow5 (by simp; omega) (fun j hj => (hown4.lt j hj).1)
                go_wp2
                go_roundw
                case rel => exact ⟨j + 1, by omega, by go_num, by simp; omega, by rw [HTK.out, HV.out]; simpa [nums, Nat.add_assoc] using hown5, hbk5, hb5⟩
                case measure => simp [intOf]; omega
              · have HV := Aside0.mk (show rl kk (b - a) = kk from if_neg (fun h => by rcases h with h | h <;> omega))
                have hq : ((b : Int) - (a : Int) == 1) = false := by rw [beq_eq_false_iff_ne]; omega
                clear h3k hba
                go_wp2_with (at_builtin; refine wpList_append_own _ rfl _ _ 34 rfl w1.heap.size 3 i0 (.int .i64 0) 1 8 Tryd.underlying34 hi hz0 hz1 hz2 rfl (by decide) _ _ _ rfl ((hown4).alloc _) ⟨w4.heap.size, 0, none⟩ 1 1 [.int .i64 kk] rfl rfl ?c1 ?c2 ?c3 ?c4 ?c5 ?_)
                case c1 => exact one_new _ _
                case c2 => intro u hu; simp at hu; subst hu; rfl
                case c3 => unfold maxLen; omega
                case c4 => omega
                case c5 => simp; omega
                intro v' w5 hown5 hgrow5 _
                have hbk4a : (w4.alloc (.cells #[.int .i64 kk] 3)).heap[wo.heap.size]? = some (.cells #[.int .i64 (a : Int), .int .i64 (b : Int)] 32 (0, 0)) := (Below.heap_alloc w4 _ _ (lt_of_block hbk4)).trans hbk4
                have hbk5 : w5.heap[wo.heap.size]? = some (.cells #[.int .i64 (a : Int), .int .i64 (b : Int)] 32 (0, 0)) := (hgrow5.block _ (lt_of_block hbk4a) (own_ne (hown4.alloc _) hbk4a (by decide))).trans hbk4a
                have hb5 : Below w1.heap.size w1 w5 := (hb4.alloc hb4.size _).grown hgrow5 (by simp; omega) (fun j hj => (hown4.lt j hj).1)
                go_wp2
                go_roundw
                case rel => exact ⟨j + 1, by omega, by go_num, by simp; omega, by rw [HTK.out, HV.out]; simpa [nums, Nat.add_assoc] using hown5, hbk5, hb5⟩
                case measure => simp [intOf]; omega
          · have he : j = b - a := by omega
            have HALL := Aside0.mk (show R ++ (rolesOf l ((a : Int), (b : Int))).take j = rolesTo l ((cutFrom l 0).take (k + 1)) by rw [HSN.out, he, rolesOf_all, HRR.out])
            clear he
            rw [HALL.out] at hown3 hlj
            go_wp2
            go_roundw
            case rel => exact ⟨k + 1, by omega, by go_num, by omega, hown3, hb3⟩
            case measure => simp [intOf]; omega
      · have HALL := Aside0.mk (show rolesTo l ((cutFrom l 0).take k) = rolesTo l (cutFrom l 0) by rw [List.take_of_length_le (by omega)])
        have hB := hb1.size
        go_wp2
        go_ret
        exact ⟨_, rfl, by rw [← HALL.out]; exact own_less hown hB, below_step hb1 hb⟩
end Go.Proofs.YtloidjfcelbpmaaDoor
