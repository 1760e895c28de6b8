/- What the calls of Cut and of the reference's Cut do: the same blocks. Conditions: the table's block; the list's numbers are of their kind, at most 1000 of them. -/
import Derived.Test.YtloidjfcelbpmaaDoorLong
namespace Go.Proofs.YtloidjfcelbpmaaDoor
open Go.RowKit Go.Proofs.YtloidjfcelbpmaaDoorW.PrintWords Go.Proofs.YtloidjfcelbpmaaDoorW.PrintLast Go.Proofs.YtloidjfcelbpmaaDoorW.PrintMore
open PHangulParts

def cells2 (l : List (Int × Int)) : List Value := l.flatMap fun p => [.int .i64 p.1, .int .i64 p.2]
theorem cells2_append (l m : List (Int × Int)) : cells2 (l ++ m) = cells2 l ++ cells2 m := by simp [cells2]
theorem info32 : (Tryd.prog.info? 32).map (fun i => (i.zero, i.size, i.bytes)) = some (some (.agg #[.int .i64 0, .int .i64 0]), 2, 16) := by kernel_rfl
theorem two_new (W : World) (x y : Int) : ∀ j u, ([.int .i64 x, .int .i64 y] : List Value)[j]? = some u → (W.alloc (.cells #[.int .i64 x, .int .i64 y] 32)).cell? ((⟨W.heap.size, 0, none⟩ : Addr).add j) = some u := by
  intro j u hj
  match j, hj with
  | 0, hj => simp at hj; subst hj; simp [Addr.add]
  | 1, hj => simp at hj; subst hj; simp [Addr.add]

/-- The blocks from a place on; d: more rounds than are left. -/
def cutF (l : List Int) : Nat → Nat → List (Int × Int)
  | 0, _ => []
  | d + 1, p => if p < l.length then ((p : Int), ((p + blk (l.drop p) : Nat) : Int)) :: cutF l d (p + blk (l.drop p)) else []
def cutFrom (l : List Int) (p : Nat) : List (Int × Int) := cutF l (l.length - p) p
theorem blk_drop (l : List Int) (p : Nat) (h : p < l.length) : 1 ≤ blk (l.drop p) ∧ blk (l.drop p) ≤ 3 ∧ p + blk (l.drop p) ≤ l.length := by
  have := blk_le (l.drop p) (by rw [List.length_drop]; omega)
  rw [List.length_drop] at this
  omega
theorem cutF_more (l : List Int) (d : Nat) : ∀ e p : Nat, l.length - p ≤ d → d ≤ e → cutF l e p = cutF l d p := by
  induction d with
  | zero =>
    intro e p hp _
    cases e with
    | zero => rfl
    | succ e => exact if_neg (by omega)
  | succ d ih =>
    intro e p hp he
    obtain ⟨e, rfl⟩ : ∃ m, e = m + 1 := ⟨e - 1, by omega⟩
    unfold cutF
    by_cases h : p < l.length
    · have := blk_drop l p h
      rw [if_pos h, if_pos h, ih e _ (by omega) (by omega)]
    · rw [if_neg h, if_neg h]
theorem cutFrom_step (l : List Int) (p : Nat) (h : p < l.length) : cutFrom l p = ((p : Int), ((p + blk (l.drop p) : Nat) : Int)) :: cutFrom l (p + blk (l.drop p)) := by
  have hb := blk_drop l p h
  unfold cutFrom
  obtain ⟨d, hd⟩ : ∃ d, l.length - p = d + 1 := ⟨l.length - p - 1, by omega⟩
  rw [hd]
  show (if p < l.length then _ else _) = _
  rw [if_pos h, cutF_more l (l.length - (p + blk (l.drop p))) d _ (by omega) (by omega)]
theorem cutFrom_end (l : List Int) (p : Nat) (h : l.length ≤ p) : cutFrom l p = [] := by
  unfold cutFrom
  rw [show l.length - p = 0 by omega]
  rfl
theorem cutF_length (l : List Int) : ∀ d p, (cutF l d p).length ≤ d
  | 0, _ => by simp [cutF]
  | d + 1, p => by
    unfold cutF
    split
    · have := cutF_length l d (p + blk (l.drop p))
      simp
      omega
    · simp
theorem cutFrom_length (l : List Int) (p : Nat) : (cutFrom l p).length ≤ l.length - p := cutF_length l _ p

theorem drop_C {w : World} {k : IntKind} {A : Option Addr} {l : List Int} (h : Kd.C (Kd.int k) w A l.length l) (a cap : Nat) (ha : a < l.length) (hc : l.length ≤ cap) :
    ∃ ad, A = some ad ∧ Kd.C (Kd.int k) w (if cap = a then some ad else some (ad.add a)) (l.drop a).length (l.drop a) := by
  obtain ⟨ad, hA, _⟩ := Kd.at_int h (a : Int) (by omega) (by omega)
  subst hA
  have h1 := Kd.C_drop h (m := a) (c := cap) (by omega) hc
  have e2 : a * (Kd.int k).sz = a := Nat.mul_one a
  rw [e2] at h1
  exact ⟨ad, rfl, h1⟩
theorem AllOk.drop {l : List Int} (h : AllOk l) (a : Nat) : AllOk (l.drop a) := fun x hx => h x (List.mem_of_mem_drop hx)
theorem block_drop (A : Option Addr) (c n : Nat) (m : List Int) (hm : m.length = n) (hok : AllOk m) (hl : n ≤ 1000) (w : World) (hT : Table w) (hr : Kd.C (Kd.int .i32) w A m.length m) (b : Nat) (hb : blk m = b) :
    Calls Tryd.prog 21 #[.slice A n c] w fun e w' => e = .returned (.int .i64 (b : Int)) ∧ Below w.heap.size w w' := by
  subst hm
  subst hb
  exact block_any A c m hok hl w hT hr

set_option maxHeartbeats 1600000 in
set_option maxRecDepth 100000 in
theorem cut_any (A : Option Addr) (c : Nat) (l : List Int) (hc : l.length ≤ c) (hok : AllOk l) (hl : l.length ≤ 1000) (w : World) (hT : Table w) (hr : Kd.C (Kd.int .i32) w A l.length l) :
    Calls Tryd.prog 15 #[.slice A l.length c] w fun e w' => ∃ v, e = .returned v ∧ w'.ownsRow w.heap.size 32 2 v (cutFrom l 0).length (cells2 (cutFrom l 0)) ∧ Below w.heap.size w w' := by
  have HR := Aside0.mk hr
  obtain ⟨i0, hi, hz0, hz1, hz2⟩ := info_parts info32
  have HT := Aside0.mk hT
  have HP := Aside0.mk hT.pos
  clear hr hT
  go_enter Tryd.func15, Tryd.ntmps15
  go_wp2
  go_loopw [3, 4] (fun v i wr => ∃ (p : Nat) (o : List (Int × Int)), p ≤ l.length ∧ i = .int .i64 p ∧ Aside0 (o ++ cutFrom l p = cutFrom l 0) ∧ o.length ≤ p ∧ wr.ownsRow w.heap.size 32 2 v o.length (cells2 o) ∧ Below w.heap.size w wr) (fun _ i _ => l.length - (intOf i).toNat)
  case atStart => exact ⟨0, [], Nat.zero_le _, rfl, ⟨rfl⟩, Nat.le_refl _, World.ownsRow_nil _ _ _ _, Below.refl _ _⟩
  case round =>
    obtain ⟨p, o, hp, rfl, HO, ho, hown, hb⟩ := hrel
    have hsz := hb.size
    by_cases hlt : p < l.length
    · obtain ⟨h1, h3, hle⟩ := blk_drop l p hlt
      have HE := Aside0.mk (cutFrom_step l p hlt)
      obtain ⟨ad, hA, hCd⟩ := drop_C (Kd.C_below HR.out hb) p c hlt hc
      subst hA
      have hCd' : Kd.C (Kd.int .i32) wr (some (ad.add p)) (l.drop p).length (l.drop p) := by rw [if_neg (by omega)] at hCd; exact hCd
      obtain ⟨b, hbk⟩ : ∃ b, blk (l.drop p) = b := ⟨_, rfl⟩
      rw [hbk] at h1 h3 hle
      have HBK := Aside0.mk hbk
      have HE' := Aside0.mk (show cutFrom l p = ((p : Int), ((p + b : Nat) : Int)) :: cutFrom l (p + b) by rw [HE.out, hbk])
      have HLD := Aside0.mk (show (l.drop p).length = l.length - p by rw [List.length_drop])
      have HOK := Aside0.mk (hok.drop p)
      clear hbk HE
      have q1 : (0 : Int) ≤ (p : Int) := by omega
      have q2 : (p : Int) ≤ (l.length : Int) := by omega
      go_wp2_with (go_at_call 21; refine (block_drop _ _ (l.length - p) (l.drop p) HLD.out HOK.out (by omega) _ (HT.out.below HP.out hb) (by first | exact hCd' | exact hCd) b HBK.out).mono ?_)
      rintro e w1 ⟨rfl, hb1⟩
      have hown1 := pw_own_below hown hb1
      have hbw1 : Below w.heap.size w w1 := below_step hb hb1
      have hsz1 := hbw1.size
      have e1 : ((p : Int) + (b : Int)) = ((p + b : Nat) : Int) := by omega
      have E1 := Aside0.mk e1
      clear e1
      go_wp2_with (at_builtin; refine wpList_append_own _ rfl _ _ 30 rfl w.heap.size 32 i0 (.agg #[.int .i64 0, .int .i64 0]) 2 16 Tryd.underlying30 hi hz0 hz1 hz2 rfl (by decide) _ _ _ rfl (hown1.alloc _) ⟨w1.heap.size, 0, none⟩ 1 1 [.int .i64 (p : Int), .int .i64 ((p : Int) + (b : Int))] rfl rfl ?c1 ?c2 ?c3 ?c4 ?c5 ?_)
      case c1 => exact two_new _ _ _
      case c2 => intro u hu; simp at hu; rcases hu with rfl | rfl <;> rfl
      case c3 => unfold maxLen; omega
      case c4 => omega
      case c5 => simp; omega
      intro v' w2 hown2 hgrow2 _
      have hbw2 : Below w.heap.size w w2 := (hbw1.alloc hbw1.size _).grown hgrow2 (by simp; omega) (fun j hj => (hown1.lt j hj).1)
      have HOWN := Aside0.mk (show w2.ownsRow w.heap.size 32 2 v' (o ++ [((p : Int), ((p + b : Nat) : Int))]).length (cells2 (o ++ [((p : Int), ((p + b : Nat) : Int))])) by rw [cells2_append, ← E1.out]; simpa [cells2] using hown2)
      go_wp2
      go_roundw
      case rel => exact ⟨p + b, o ++ [((p : Int), ((p + b : Nat) : Int))], by omega, by rw [E1.out], ⟨by rw [List.append_assoc, List.singleton_append, ← HE'.out]; exact HO.out⟩, by simp; omega, HOWN.out, hbw2⟩
      case measure => simp [intOf]; omega
    · have HEND := Aside0.mk (show o = cutFrom l 0 by rw [← HO.out, cutFrom_end l p (by omega), List.append_nil])
      go_wp2
      go_ret
      exact ⟨_, rfl, by rw [← HEND.out]; exact hown, hb⟩

theorem long_call (A : Option Addr) (c : Nat) (l : List Int) (hl : l.length ≤ 1000) (p : Nat) (hp : p < l.length) (b : Nat) (hb : blk (l.drop p) = b) (w : World) (hr : Kd.C (Kd.int .i32) w A l.length l) :
    Calls Tryd.prog 22 #[.slice A l.length c, .int .i64 (p : Int)] w fun e w' => e = .returned (.int .i64 (b : Int)) ∧ Below w.heap.size w w' := by
  subst hb
  exact long_any A c l hl p hp w hr

set_option maxHeartbeats 1600000 in
set_option maxRecDepth 100000 in
theorem ref_cut_any (A : Option Addr) (c : Nat) (l : List Int) (hl : l.length ≤ 1000) (w : World) (hr : Kd.C (Kd.int .i32) w A l.length l) :
    Calls Tryd.prog 16 #[.slice A l.length c] w fun e w' => ∃ v, e = .returned v ∧ w'.ownsRow w.heap.size 32 2 v (cutFrom l 0).length (cells2 (cutFrom l 0)) ∧ Below w.heap.size w w' := by
  have HR := Aside0.mk hr
  obtain ⟨i0, hi, hz0, hz1, hz2⟩ := info_parts info32
  clear hr
  go_enter Tryd.func16, Tryd.ntmps16
  go_wp2
  go_loopw [3, 4] (fun v i wr => ∃ (p : Nat) (o : List (Int × Int)), p ≤ l.length ∧ i = .int .i64 p ∧ Aside0 (o ++ cutFrom l p = cutFrom l 0) ∧ o.length ≤ p ∧ wr.ownsRow w.heap.size 32 2 v o.length (cells2 o) ∧ Below w.heap.size w wr) (fun _ i _ => l.length - (intOf i).toNat)
  case atStart => exact ⟨0, [], Nat.zero_le _, rfl, ⟨rfl⟩, Nat.le_refl _, World.ownsRow_nil _ _ _ _, Below.refl _ _⟩
  case round =>
    obtain ⟨p, o, hp, rfl, HO, ho, hown, hb⟩ := hrel
    have hsz := hb.size
    by_cases hlt : p < l.length
    · obtain ⟨h1, h3, hle⟩ := blk_drop l p hlt
      have HE := Aside0.mk (cutFrom_step l p hlt)
      have hCd := Kd.C_below HR.out hb
      obtain ⟨b, hbk⟩ : ∃ b, blk (l.drop p) = b := ⟨_, rfl⟩
      rw [hbk] at h1 h3 hle
      have HBK := Aside0.mk hbk
      have HE' := Aside0.mk (show cutFrom l p = ((p : Int), ((p + b : Nat) : Int)) :: cutFrom l (p + b) by rw [HE.out, hbk])
      clear hbk HE
      go_wp2_with (go_at_call 22; refine (long_call _ c l hl p hlt b HBK.out _ (by exact hCd)).mono ?_)
      rintro e w1 ⟨rfl, hb1⟩
      have hown1 := pw_own_below hown hb1
      have hbw1 : Below w.heap.size w w1 := below_step hb hb1
      have hsz1 := hbw1.size
      have e1 : ((p : Int) + (b : Int)) = ((p + b : Nat) : Int) := by omega
      have E1 := Aside0.mk e1
      clear e1
      go_wp2_with (at_builtin; refine wpList_append_own _ rfl _ _ 30 rfl w.heap.size 32 i0 (.agg #[.int .i64 0, .int .i64 0]) 2 16 Tryd.underlying30 hi hz0 hz1 hz2 rfl (by decide) _ _ _ rfl (hown1.alloc _) ⟨w1.heap.size, 0, none⟩ 1 1 [.int .i64 (p : Int), .int .i64 ((p : Int) + (b : Int))] rfl rfl ?c1 ?c2 ?c3 ?c4 ?c5 ?_)
      case c1 => exact two_new _ _ _
      case c2 => intro u hu; simp at hu; rcases hu with rfl | rfl <;> rfl
      case c3 => unfold maxLen; omega
      case c4 => omega
      case c5 => simp; omega
      intro v' w2 hown2 hgrow2 _
      have hbw2 : Below w.heap.size w w2 := (hbw1.alloc hbw1.size _).grown hgrow2 (by simp; omega) (fun j hj => (hown1.lt j hj).1)
      have HOWN := Aside0.mk (show w2.ownsRow w.heap.size 32 2 v' (o ++ [((p : Int), ((p + b : Nat) : Int))]).length (cells2 (o ++ [((p : Int), ((p + b : Nat) : Int))])) by rw [cells2_append, ← E1.out]; simpa [cells2] using hown2)
      go_wp2
      go_roundw
      case rel => exact ⟨p + b, o ++ [((p : Int), ((p + b : Nat) : Int))], by omega, by rw [E1.out], ⟨by rw [List.append_assoc, List.singleton_append, ← HE'.out]; exact HO.out⟩, by simp; omega, HOWN.out, hbw2⟩
      case measure => simp [intOf]; omega
    · have HEND := Aside0.mk (show o = cutFrom l 0 by rw [← HO.out, cutFrom_end l p (by omega), List.append_nil])
      go_wp2
      go_ret
      exact ⟨_, rfl, by rw [← HEND.out]; exact hown, hb⟩
end Go.Proofs.YtloidjfcelbpmaaDoor
