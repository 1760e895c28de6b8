/- Whatever reads as a value of the struct type is an expression as a tree: opened. Condition: none. -/
import Derived.Test.YtbhkjaiaglkgjaaCalls
import Derived.Deep.Slices
import Derived.Deep.Strs
import Derived.Lib.SmallJoins
import Derived.ChangeArms
namespace Go.Proofs.Ytbhkjaiaglkgjaa
open Go.RowKit Go.WideShapes Go.ChangeShapes Go.Proofs.YtbhkjaiaglkgjaaW.PrintWords
open PRegexTells

/-- The numbers of all nodes, to a depth, are of their kinds. -/
def WfN : Nat → S25 → Prop
  | 0, _ => True
  | n + 1, x => (Lit.int .u8 x.f0).wf = true ∧ (Lit.int .u16 x.f1).wf = true ∧ ∀ k ∈ x.f2, WfN n k

theorem cells25 : Try.prog.cellsOf 25 = 3 := by kernel_rfl
instance : Inhabited S25 := ⟨z25⟩
section
variable {H : Type} {enc : TypeId × Value → H} {W : World} {sp : Nat → Bool} {hd : Bool}

def Opened (W : World) (cs : List Value) (x : S25) : Prop :=
  ∃ (A : Option Addr) (c : Nat), cs = [.int .u8 x.f0, .int .u16 x.f1, .slice A x.f2.length c] ∧ x.f2.length ≤ c ∧ Kd.C k25 W A x.f2.length x.f2 ∧ ∀ m, WfN m x

theorem struct3' {P : Program} {t : TypeId} {f0 f1 f2 : Field} {fuel : Nat} {c0 c1 c2 : Value} {y : DataW H × List MemPlace} (ht : P.underlying t = some (.struct #[f0, f1, f2])) (hone : Go.Deep.oneCellFields P #[f0, f1, f2] = true) (h : DataW.trod enc P W 0 sp hd fuel t [c0, c1, c2] = some y) :
    ∃ n y0 y1 y2, fuel = n + 1 ∧ DataW.trod enc P W 0 sp hd n f0.type [c0] = some y0 ∧ DataW.trod enc P W 0 sp hd n f1.type [c1] = some y1 ∧ DataW.trod enc P W 0 sp hd n f2.type [c2] = some y2 := by
  obtain ⟨xs, n, hfu, _, hl, hlen, hf⟩ := DataW.trod_struct ht h
  obtain ⟨o0, k0⟩ := Go.Deep.hone_of hone 0 f0 rfl
  obtain ⟨o1, k1⟩ := Go.Deep.hone_of hone 1 f1 rfl
  obtain ⟨o2, k2⟩ := Go.Deep.hone_of hone 2 f2 rfl
  match xs, hlen with
  | [y0, y1, y2], _ => exact ⟨n, y0, y1, y2, hfu, by simpa [o0, k0] using hf 0 f0 rfl, by simpa [o1, k1] using hf 1 f1 rfl, by simpa [o2, k2] using hf 2 f2 rfl⟩

theorem open25 : ∀ (fuel : Nat) (cs : List Value) (y : DataW H × List MemPlace), DataW.trod enc Try.prog W 0 sp hd fuel 25 cs = some y → ∃ x : S25, Opened W cs x := by
  intro fuel
  induction fuel using Nat.strongRecOn with
  | _ fuel ih =>
  intro cs y h
  have hl : cs.length = 3 := by
    obtain ⟨_, _, _, _, hl, _⟩ := DataW.trod_struct Try.underlying25 h
    rw [hl, cells25]
  obtain ⟨c0, c1, c2, rfl⟩ : ∃ a b c, cs = [a, b, c] := by
    match cs, hl with
    | [a, b, c], _ => exact ⟨a, b, c, rfl⟩
  obtain ⟨n, y0, y1, y2, rfl, h0, h1, h2⟩ := struct3' Try.underlying25 (by kernel_rfl) h
  obtain ⟨a, ea, _, wa⟩ := DataW.trod_int Try.underlying5 h0
  obtain ⟨b, eb, _, wb⟩ := DataW.trod_int Try.underlying22 h1
  obtain rfl : c0 = .int .u8 a := by simpa using ea
  obtain rfl : c1 = .int .u16 b := by simpa using eb
  rcases DataW.trod_slice Try.underlying23 h2 with ⟨e, _⟩ | ⟨ad, len, cap, elems, rest, m, hn, e, _, _, hlc, hcm, hle, hel, _, _⟩
  · obtain rfl : c2 = .slice none 0 0 := by simpa using e
    refine ⟨⟨a, b, []⟩, none, 0, rfl, Nat.le_refl _, Kd.C_nil _ _, fun m => ?_⟩
    cases m with
    | zero => trivial
    | succ m => exact ⟨wa, wb, fun k hk => by simp at hk⟩
  · obtain rfl : c2 = .slice (some ad) len cap := by simpa using e
    have each : ∀ i, i < len → ∃ x : S25, ∃ cs', W.cells? 0 (ad.add (i * 3)) 3 = some cs' ∧ Opened W cs' x := by
      intro i hi
      have h3 := hel i hi
      rw [cells25, List.getElem?_eq_getElem (by omega)] at h3
      obtain ⟨cs', g1, g2⟩ := Option.bind_eq_some_iff.1 h3
      obtain ⟨x, hx⟩ := ih m (by omega) cs' _ g2
      exact ⟨x, cs', g1, hx⟩
    obtain ⟨f, hf'⟩ := Go.Deep.choose_lt each
    have hln : ((List.range len).map f).length = len := by simp
    refine ⟨⟨a, b, (List.range len).map f⟩, some ad, cap, by rw [hln], by rw [hln]; exact hlc, ?_, fun q => ?_⟩
    · rw [hln]
      refine ⟨hln, by unfold maxLen at hcm; omega, fun _ => ⟨ad, rfl, fun j p hj => ?_⟩⟩
      have hjl : j < len := by have := (List.getElem?_eq_some_iff.1 hj).1; rw [hln] at this; exact this
      obtain rfl : p = f j := by
        rw [List.getElem?_map, List.getElem?_range hjl] at hj
        exact (Option.some.inj hj).symm
      obtain ⟨cs', g1, A', c', rfl, hc', hC', _⟩ := hf' j hjl
      obtain ⟨_, _, g3⟩ := World.cells?_some g1
      refine ⟨_, rfl, k25_mk W (f j) hc' hC', fun i u hu => ?_⟩
      have hi : i < 3 := (List.getElem?_eq_some_iff.1 hu).1
      have g4 := g3 i hi
      rw [Go.Deep.add_add] at g4
      exact g4.trans hu
    · cases q with
      | zero => trivial
      | succ q =>
        refine ⟨wa, wb, fun k hk => ?_⟩
        obtain ⟨j, hj, rfl⟩ := List.mem_map.1 hk
        obtain ⟨cs', _, A', c', _, _, _, hw⟩ := hf' j (List.mem_range.1 hj)
        exact hw q
/-- An argument of the struct type, opened. -/
theorem open_arg {r : Reach} {b0 : Nat} {v : Value} {d : DataW H} {p : List MemPlace} (hv : Value.okWide Try.prog W r b0 25 v) (h : DataW.Trod enc Try.prog W 0 sp hd 25 v d p) :
    ∃ (x : S25) (A : Option Addr) (c : Nat), v = .agg #[.int .u8 x.f0, .int .u16 x.f1, .slice A x.f2.length c] ∧ x.f2.length ≤ c ∧ Kd.C k25 W A x.f2.length x.f2 ∧ ∀ m, WfN m x := by
  obtain ⟨cs, rfl, _⟩ := okWide_struct Try.underlying25 hv
  obtain ⟨fuel, hf⟩ := h
  obtain ⟨x, A, c, hcs, hc, hC, hw⟩ := open25 _ _ _ hf
  refine ⟨x, A, c, ?_, hc, hC, hw⟩
  simp only [Value.cells] at hcs
  have : cs = #[.int .u8 x.f0, .int .u16 x.f1, .slice A x.f2.length c] := by
    apply Array.toList_inj.1
    simpa using hcs
  rw [this]
end
end Go.Proofs.Ytbhkjaiaglkgjaa
