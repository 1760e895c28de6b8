/- What the calls of Feature, of the closure in Cuts, and of Cuts do: contracts over the program. Conditions: the table's cells; the list has at most 1000 elements. -/
import Derived.Test.YtdaeombjdagnbaaDoorMath2
import Derived.OneCell
import Derived.Lib.Hide
import Derived.Outline
namespace Go.Proofs.YtdaeombjdagnbaaDoor
open Go.RowKit Go.Proofs.YtdaeombjdagnbaaDoorW.PrintWords Go.Proofs.YtdaeombjdagnbaaDoorW.PrintLast Go.Proofs.YtdaeombjdagnbaaDoorW.PrintMore
open PJoiningForms Math

/-- The table's text at a form. -/
def feat (n : Int) : ByteArray := if n = 1 then ⟨#[105, 115, 111, 108]⟩ else if n = 2 then ⟨#[102, 105, 110, 97]⟩ else if n = 3 then ⟨#[109, 101, 100, 105]⟩ else if n = 4 then ⟨#[105, 110, 105, 116]⟩ else ⟨#[]⟩
def Table (w : World) : Prop := ∀ j : Nat, j < 5 → w.cell? ⟨0, j, none⟩ = some (.string (feat j))
theorem Table.below {B : Nat} {w w' : World} (h : Table w) (hB : 0 < B) (hb : Below B w w') : Table w' := fun j hj => (hb.cell (p := ⟨0, j, none⟩) hB).trans (h j hj)

theorem feature_any (n : Int) (w : World) (hT : Table w) : Calls Tryd.prog 15 #[.int .i64 n] w fun e w' => e = .returned (.string (feat n)) ∧ w = w' := by
  by_cases h0 : n < 0
  · have hd : decide (n < 0) = true := by simpa using h0
    have hf : feat n = ⟨#[]⟩ := by unfold feat; rw [if_neg (by omega), if_neg (by omega), if_neg (by omega), if_neg (by omega)]
    have HF := Lib.hid hf; clear hf
    go_enter Tryd.func15, Tryd.ntmps15
    go_wp2
    go_ret
    exact ⟨by rw [HF.out]; rfl, rfl⟩
  · by_cases h5 : 5 ≤ n
    · have hf : feat n = ⟨#[]⟩ := by unfold feat; rw [if_neg (by omega), if_neg (by omega), if_neg (by omega), if_neg (by omega)]
      have HF := Lib.hid hf; clear hf
      go_enter Tryd.func15, Tryd.ntmps15
      go_wp2
      go_ret
      exact ⟨by rw [HF.out]; rfl, rfl⟩
    · obtain ⟨j, rfl⟩ := Int.eq_ofNat_of_zero_le (show 0 ≤ n by omega)
      have hc := hT j (by omega)
      go_enter Tryd.func15, Tryd.ntmps15
      go_wp2
      go_ret
      exact ⟨rfl, rfl⟩

/-! The closure in Cuts -/
def cells2 (l : List (Int × Int)) : List Value := l.flatMap fun p => [.int .i64 p.1, .int .i64 p.2]
theorem cells2_append (l m : List (Int × Int)) : cells2 (l ++ m) = cells2 l ++ cells2 m := by simp [cells2]
/-- The closure's two variables: where a piece began, and the pieces. -/
structure Inv (B gf go : Nat) (frm : Int) (out : List (Int × Int)) (w : World) : Prop where
  lo : B ≤ gf
  lo' : B ≤ go
  hf : w.heap[gf]? = some (.cells #[.int .i64 frm] 3 (0, 0))
  ho : ∃ v, w.heap[go]? = some (.cells #[v] 29 (0, 0)) ∧ w.ownsRow B 32 2 v out.length (cells2 out)
theorem info32 : (Tryd.prog.info? 32).map (fun i => (i.zero, i.size, i.bytes)) = some (some (.agg #[.int .i64 0, .int .i64 0]), 2, 16) := by kernel_rfl

theorem cut_no (B gf go : Nat) (frm at_ : Int) (out : List (Int × Int)) (w : World) (h : Inv B gf go frm out w) (hle : at_ ≤ frm) :
    Calls Tryd.prog 18 #[.int .i64 at_, .pointer (some ⟨gf, 0, none⟩), .pointer (some ⟨go, 0, none⟩)] w fun e w' => e = .returned (.tuple #[]) ∧ w = w' := by
  have cF := cell_of_one h.hf
  go_enter Tryd.func18, Tryd.ntmps18
  go_wp2
  go_end0
  exact ⟨rfl, rfl⟩

set_option maxRecDepth 100000 in
theorem cut_yes (B gf go : Nat) (frm at_ : Int) (out : List (Int × Int)) (w : World) (h : Inv B gf go frm out w) (hlt : frm < at_) (hn : out.length ≤ 1000) :
    Calls Tryd.prog 18 #[.int .i64 at_, .pointer (some ⟨gf, 0, none⟩), .pointer (some ⟨go, 0, none⟩)] w fun e w' => e = .returned (.tuple #[]) ∧ Inv B gf go at_ (out ++ [(frm, at_)]) w' ∧ Below B w w' := by
  obtain ⟨lo, lo', hf, v, ho, hown⟩ := h
  have cF := cell_of_one hf
  have fF := free_of_one hf
  have cO := cell_of_one ho
  have fO := free_of_one ho
  obtain ⟨i0, hi, hz0, hz1, hz2⟩ := info_parts info32
  have hlo : go < w.heap.size := lt_of_block ho
  go_enter Tryd.func18, Tryd.ntmps18
  go_wp2_with (at_builtin; refine wpList_append_own _ rfl _ _ 29 rfl B 32 i0 (.agg #[.int .i64 0, .int .i64 0]) 2 16 Tryd.underlying29 hi hz0 hz1 hz2 rfl (by decide) _ _ _ rfl (hown.alloc _) ⟨w.heap.size, 0, none⟩ 1 1 [.int .i64 frm, .int .i64 at_] rfl rfl ?c1 ?c2 ?c3 ?c4 ?c5 ?_)
  case c1 =>
    intro j u hj
    match j, hj with
    | 0, hj => simp at hj; subst hj; simp [Addr.add]
    | 1, hj => simp at hj; subst hj; simp [Addr.add]
  case c2 => intro u hu; simp at hu; rcases hu with rfl | rfl <;> rfl
  case c3 => unfold maxLen; omega
  case c4 => omega
  case c5 => simp; omega
  intro v' w1 hown1 hgrow1 _
  have hform := own_slice hown1
  obtain ⟨A', c', rfl⟩ := hform
  have ho0 : (w.alloc (.cells #[.int .i64 frm, .int .i64 at_] 32)).heap[go]? = some (.cells #[v] 29 (0, 0)) := (Below.heap_alloc w _ go hlo).trans ho
  have hf0 : (w.alloc (.cells #[.int .i64 frm, .int .i64 at_] 32)).heap[gf]? = some (.cells #[.int .i64 frm] 3 (0, 0)) := (Below.heap_alloc w _ gf (lt_of_block hf)).trans hf
  have ho1 : w1.heap[go]? = some (.cells #[v] 29 (0, 0)) := (hgrow1.block go (lt_of_block ho0) (own_ne (hown.alloc _) ho0 (by decide))).trans ho0
  have hf1 : w1.heap[gf]? = some (.cells #[.int .i64 frm] 3 (0, 0)) := (hgrow1.block gf (lt_of_block hf0) (own_ne (hown.alloc _) hf0 (by decide))).trans hf0
  have hne : gf ≠ go := fun e => by subst e; rw [hf] at ho; simp at ho
  have hb : Below B w w1 := (((Below.refl B w).alloc (by omega) _).grown hgrow1 (by simp; omega) (fun j hj => (hown.lt j hj).1))
  have hf2 : (w1.setCell ⟨go, 0, none⟩ (.slice A' (out.length + 1) c')).heap[gf]? = some (.cells #[.int .i64 frm] 3 (0, 0)) := (Below.heap_setCell _ _ _ _ hne).trans hf1
  have ho2 := one_setCell (u := .slice A' (out.length + 1) c') ho1
  have ho3 : ((w1.setCell ⟨go, 0, none⟩ (.slice A' (out.length + 1) c')).setCell ⟨gf, 0, none⟩ (.int .i64 at_)).heap[go]? = some (.cells #[.slice A' (out.length + 1) c'] 29 (0, 0)) := (Below.heap_setCell _ _ _ _ (fun e => hne e.symm)).trans ho2
  have hf3 := one_setCell (u := .int .i64 at_) hf2
  have hown3 := own_setCell (p := ⟨gf, 0, none⟩) (own_setCell (p := ⟨go, 0, none⟩) hown1 (own_ne hown1 ho1 (by decide)) (.slice A' (out.length + 1) c')) (own_ne hown1 hf1 (by decide)) (.int .i64 at_)
  have hb3 := (hb.setCell (p := ⟨go, 0, none⟩) lo' (.slice A' (out.length + 1) c')).setCell (p := ⟨gf, 0, none⟩) lo (.int .i64 at_)
  have cO1 := cell_of_one ho1
  have fO1 := free_of_one ho1
  have cF2 := cell_of_one hf2
  have fF2 := free_of_one hf2
  have HI : Inv B gf go at_ (out ++ [(frm, at_)]) ((w1.setCell ⟨go, 0, none⟩ (.slice A' (out.length + 1) c')).setCell ⟨gf, 0, none⟩ (.int .i64 at_)) := ⟨lo, lo', hf3, _, ho3, by simpa [cells2] using hown3⟩
  have HI' := Lib.hid HI
  have HB := Lib.hid hb3
  clear hne ho1 hf1 ho0 hf0 hf2 ho2 ho3 hf3 hown3 hb3 HI cO fO cF fF
  go_wp2
  go_end0
  exact ⟨rfl, HI'.out, HB.out⟩
end Go.Proofs.YtdaeombjdagnbaaDoor
