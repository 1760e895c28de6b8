/- What the call of the reference's Turned answers: the turned one, in rows of its own. Condition: no node has more than 120 kids, and the tree is at most n deep. -/
import Derived.Test.YtbhkjaiaglkgjaaTurn
import Derived.Test.YtbhkjaiaglkgjaaWraps
namespace Go.Proofs.Ytbhkjaiaglkgjaa
open Go.RowKit Go.Proofs.YtbhkjaiaglkgjaaW.PrintWords Go.Proofs.YtbhkjaiaglkgjaaW.PrintLast Go.Proofs.YtbhkjaiaglkgjaaW.PrintMore
open PRegexTells

/-- What stands in the turned one's kids after i rounds. -/
def outN (n : Nat) (x : S25) (i : Nat) : List S25 := if x.f0 = 2 then ((x.f2.take i).map (turN n)).reverse else (x.f2.take i).map (turN n)
theorem take_snoc (l : List S25) (i : Nat) (h : i < l.length) : l.take (i + 1) = l.take i ++ [rd_T25 l (i : Int)] := by
  rw [List.take_add_one]
  unfold rd_T25
  rw [Int.toNat_natCast, List.getD_eq_getElem?_getD, List.getElem?_eq_getElem h]; rfl
theorem outN_zero (n : Nat) (x : S25) : outN n x 0 = [] := by unfold outN; simp
theorem outN_front (n : Nat) (x : S25) (i : Nat) (h : i < x.f2.length) (h2 : x.f0 = 2) : outN n x (i + 1) = [turN n (rd_T25 x.f2 (i : Int))] ++ outN n x i := by
  unfold outN; rw [if_pos h2, if_pos h2, take_snoc _ _ h]; simp
theorem outN_back (n : Nat) (x : S25) (i : Nat) (h : i < x.f2.length) (h2 : ¬ x.f0 = 2) : outN n x (i + 1) = outN n x i ++ [turN n (rd_T25 x.f2 (i : Int))] := by
  unfold outN; rw [if_neg h2, if_neg h2, take_snoc _ _ h]; simp
theorem outN_all (n : Nat) (x : S25) : outN n x x.f2.length = (turN (n + 1) x).f2 := by
  unfold outN; rw [tur2, List.take_length]
theorem outN_len (n : Nat) (x : S25) (i : Nat) (h : i ≤ x.f2.length) : (outN n x i).length = i := by
  unfold outN; split <;> simp <;> omega

theorem row_one {W : World} {base : Nat} {ok okv : Nat → Prop} {t : S25} {v2 : Value} (HV : Kd.R k25 25 W base okv v2 t.f2) (hbase : base ≤ W.heap.size) (hok : ∀ k, okv k → ok k) (hnew : ok W.heap.size) :
    Kd.R k25 25 (W.alloc (.cells #[.int .u8 t.f0, .int .u16 t.f1, v2] 25 (0, 0))) base ok (.slice (some ⟨W.heap.size, 0, none⟩) 1 1) [t] := by
  refine ⟨fun k hk => ?_, ?_⟩
  · simp [Value.ownBlock] at hk
    exact hk ▸ hnew
  · have hM := k25.M_bound (k25_mkM W base okv t HV)
    have hM1 := Kd.M_below hM (below_alloc (Below.refl W.heap.size W) (.cells #[.int .u8 t.f0, .int .u16 t.f1, v2] 25 (0, 0)))
    have hM2 := k25.M_mono (ok' := fun k => ok k ∧ some k ≠ (Value.slice (some ⟨W.heap.size, 0, none⟩) 1 1).ownBlock) (fun k hk => ⟨hok k hk.1, fun e => by simp [Value.ownBlock] at e; have := hk.2.2.1; omega⟩) hM1
    exact OwnRow.lit (ps := [t]) W base ((Reps.none _ k25.sz).snoc hM2 rfl) hbase (by simp)

theorem row_rd {W W1 : World} {base gl : Nat} {ok : Nat → Prop} {A : Option Addr} {c : Nat} {l : List S25} (HO : Kd.R k25 25 W base ok (.slice A l.length c) l) (hb : Below W.heap.size W W1) (hg : W.heap.size ≤ gl) :
    ReadsRow (fun q cs => k25.M W1 base (fun k => ok k ∧ some k ≠ (Value.slice (some ⟨gl, 0, none⟩) 1 1).ownBlock) q cs) k25.sz W1 A l.length l := by
  have h1 := Kd.R_below (Kd.R_bound HO) hb
  obtain ⟨A', c', he, _, hr⟩ := OwnRow.reads h1.2
  injection he with hA _ _
  subst hA
  exact hr.imp_ (Below.refl _ _) (fun _ _ hp => k25.M_mono (fun k hk => ⟨hk.1.1, fun e => by simp [Value.ownBlock] at e; have := hk.1.2.2.1; omega⟩) hp)

theorem lit_event {P : Program} {ops : Array Oper} {rest : List Oper} {o : Oper} {a : Act} {Q : Exit → Act → World → Prop} {W : World} (hgd : o.guard = none) {N : Tmp} (_hd : o.dst = some N) {cs : Array Value} {t : TypeId}
    (hrun : (execOp a.eval o).run P W = .ok (.value (.slice (some ⟨W.heap.size, 0, none⟩) 1 1)) (W.alloc (.cells cs t (0, 0))))
    (h : ∀ g, W.heap.size = g → ∀ w1, W.alloc (.cells cs t (0, 0)) = w1 → wpList P ops Q rest (a.put o.dst (.slice (some ⟨g, 0, none⟩) 1 1)) w1) : wpList P ops Q (o :: rest) a W :=
  Kd.event_run hgd hrun (h _ rfl _ rfl)

set_option maxHeartbeats 3200000 in
set_option maxRecDepth 100000 in
theorem rturned_calls (n : Nat) : ∀ (x t : S25) (A : Option Addr) (c : Nat) (w : World), Sm n x → turN n x = t → Kd.C k25 w A x.f2.length x.f2 → x.f2.length ≤ c →
    Calls Try.prog 22 #[.agg #[.int .u8 x.f0, .int .u16 x.f1, .slice A x.f2.length c]] w fun e w' => ∃ v, e = .returned (.agg #[.int .u8 t.f0, .int .u16 t.f1, v]) ∧ Kd.R k25 25 w' w.heap.size (fun _ => True) v t.f2 ∧ Below w.heap.size w w' := by
  induction n with
  | zero => intro x t A c w hS; exact hS.elim
  | succ n ih =>
    intro x t0 A c w hS ht0 hC hc
    have hu25 := Try.underlying25
    have HC := Aside0.mk hC
    have hlen := hS.len
    have IHH := Aside0.mk ih
    have HT0 := Aside0.mk ht0
    have e0 : t0.f0 = x.f0 := by rw [← ht0]; rfl
    have e1 : t0.f1 = x.f1 := by rw [← ht0]; rfl
    have HT2 := Aside0.mk (show outN n x x.f2.length = t0.f2 by rw [← ht0]; exact outN_all n x)
    rw [e0, e1]
    clear hC ih ht0 e0 e1
    go_enter Try.func22, Try.ntmps22
    go_wp2_with (first | (((with_reducible refine gate_dst (N := 1) rfl ?_); refine box_event ?hg (N := 1) ?hd (cs := #[.int .u8 x.f0, .int .u16 x.f1, .slice A x.f2.length c]) (t := 25) ?hr ?_; (case hd => rfl); (case hg => rfl); (case hr => first | (go_simp; done) | (go_simp; rfl)); intro gb hgb w1 hbox hb); have HXb1 := Aside0.mk hbox; have HB1 := Aside0.mk hb; have hX := HXb1.out; clear hgb hbox hb) | (((with_reducible refine gate_dst (N := 2) rfl ?_); refine box_event ?hg (N := 2) ?hd (cs := #[.int .u8 0, .int .u16 0, .slice none 0 0]) (t := 25) ?hr ?_; (case hd => rfl); (case hg => rfl); (case hr => first | (go_simp; done) | (go_simp; rfl)); intro gr hgr w2 hbox hb); have HXr2 := Aside0.mk hbox; have HXb2 := Aside0.mk (blk_below HXb1.out hb); have HB2 := Aside0.mk (below_in HB1.out hb); have HBR := Aside0.mk (show gb ≠ gr by rw [hgr]; exact Nat.ne_of_lt (blk_lt HXb1.out)); clear hX; have y0 : w2.cell? ⟨gb, 0, none⟩ = some (.int .u8 x.f0) := (blk_cell HXb2.out 0).trans rfl; have y1 : w2.cell? ⟨gb, 1, none⟩ = some (.int .u16 x.f1) := (blk_cell HXb2.out 1).trans rfl; have hGR := (show w.heap.size ≤ gr by rw [hgr]; exact HB1.out.size); clear hgr hbox hb))
    obtain ⟨w3, hw3⟩ : ∃ w3, w2.alloc (.cells #[.int .u8 x.f0, .int .u16 x.f1, .slice none 0 0] 25 (0, 0)) = w3 := ⟨_, rfl⟩
    have hbox := blk_new w2 (.cells #[.int .u8 x.f0, .int .u16 x.f1, .slice none 0 0] 25 (0, 0))
    have hb : Below w2.heap.size w2 (w2.alloc (.cells #[.int .u8 x.f0, .int .u16 x.f1, .slice none 0 0] 25 (0, 0))) := below_alloc (Below.refl _ _) _
    rw [hw3] at hbox hb ⊢
    have HB3 := Aside0.mk (below_in HB2.out hb)
    have HXb3 := Aside0.mk (blk_below HXb2.out hb)
    have HXr3 := Aside0.mk (blk_below HXr2.out hb)
    obtain ⟨gz, hgz⟩ : ∃ gz, w2.heap.size = gz := ⟨_, rfl⟩
    have HBZ := Aside0.mk (show gb ≠ gz by rw [← hgz]; exact Nat.ne_of_lt (blk_lt HXb2.out))
    have HRZ := Aside0.mk (show gr ≠ gz by rw [← hgz]; exact Nat.ne_of_lt (blk_lt HXr2.out))
    have HGZ := Aside0.mk (show w.heap.size ≤ gz by rw [← hgz]; exact HB2.out.size)
    have HGR := Aside0.mk (show w.heap.size ≤ gr from hGR)
    rw [hgz] at hbox ⊢
    have HXz3 := Aside0.mk hbox
    clear hw3 hgz hbox hb y0 y1 hGR
    go_loopw [4] (fun v wr => ∃ (i : Nat) (u : Value) (out : List S25), i ≤ x.f2.length ∧ v = .int .i64 i ∧ Aside0 (out = outN n x i) ∧ Aside0 (Kd.R k25 25 wr w.heap.size (fun k => k ≠ gb ∧ k ≠ gr ∧ k ≠ gz) u out) ∧ Aside0 (wr.heap[gb]? = some (.cells #[.int .u8 x.f0, .int .u16 x.f1, .slice A x.f2.length c] 25 (0, 0))) ∧ Aside0 (wr.heap[gr]? = some (.cells #[.int .u8 0, .int .u16 0, .slice none 0 0] 25 (0, 0))) ∧ Aside0 (wr.heap[gz]? = some (.cells #[.int .u8 x.f0, .int .u16 x.f1, u] 25 (0, 0))) ∧ Aside0 (Below w.heap.size w wr)) (fun i _ => x.f2.length - (intOf i).toNat)
    case atStart => exact ⟨0, .slice none 0 0, [], Nat.zero_le _, rfl, ⟨(outN_zero n x).symm⟩, ⟨Kd.R_nil _ _ _ _ _⟩, HXb3, HXr3, HXz3, HB3⟩
    case round =>
      obtain ⟨i, u, out, hk, rfl, HOUT, HO, BKb, BKr, BKz, HB⟩ := hrel
      obtain ⟨Au, cu, rfl⟩ := Kd.R_slice HO.out
      by_cases hlt : i < x.f2.length
      · obtain ⟨ad, A2, c2, rfl, hx0, hx1, hx2, hl2, hC2⟩ := at_T25 HC.out (i : Int) (by omega) (by omega)
        rw [Int.toNat_natCast] at hx0 hx1 hx2
        replace hx0 := (HB.out.cell (World.block_lt_of_cell? w _ hx0)).trans hx0
        replace hx1 := (HB.out.cell (World.block_lt_of_cell? w _ hx1)).trans hx1
        replace hx2 := (HB.out.cell (World.block_lt_of_cell? w _ hx2)).trans hx2
        have HF := Aside0.mk (outN_front n x i hlt)
        have HK := Aside0.mk (outN_back n x i hlt)
        have HY := Aside0.mk (hS.2 _ (rd_mem x.f2 i hlt))
        obtain ⟨y, hy⟩ : ∃ y, rd_T25 x.f2 (i : Int) = y := ⟨_, rfl⟩
        obtain ⟨t, ht⟩ : ∃ t, turN n y = t := ⟨_, rfl⟩
        rw [hy] at hx0 hx1 hx2 hl2 hC2 HF HK HY
        rw [ht] at HF HK
        have HT := Aside0.mk ht
        have HC2 := Aside0.mk hC2
        have HLN := Aside0.mk (show out.length = i by rw [HOUT.out]; exact outN_len n x i (by omega))
        have y2 : wr.cell? ⟨gb, 2, none⟩ = some (.slice (some ad) x.f2.length c) := (blk_cell BKb.out 2).trans rfl
        clear hy ht hC2
        by_cases hk2 : x.f0 = 2
        · have d2 : (x.f0 == 2) = true := by rw [beq_iff_eq]; exact hk2
          have HST := Aside0.mk (show t :: out = outN n x (i + 1) by rw [show t :: out = [t] ++ out from rfl]; rw [HF.out hk2, HOUT.out])
          clear hk2
          go_wp2_with (first | (go_at_call 22; have hh := IHH.out y t A2 c2 wr HY.out HT.out (Kd.C_below HC2.out HB.out) hl2; with_reducible refine hh.mono ?_; clear hh; rintro e w4 ⟨v2, rfl, hV, hb⟩; obtain ⟨A4, c4, rfl⟩ := Kd.R_slice hV; have HB4 := Aside0.mk (below_in HB.out hb); have BKb4 := Aside0.mk (blk_below BKb.out hb); have BKr4 := Aside0.mk (blk_below BKr.out hb); have BKz4 := Aside0.mk (blk_below BKz.out hb); have HO4 := Aside0.mk (Kd.R_below HO.out hb); have HV4 := Aside0.mk (Kd.R_lower (Kd.R_mono (ok' := fun k => wr.heap.size ≤ k) (Kd.R_bound hV) (fun k hk => hk.2.1)) HB.out.size); have HS4 := Aside0.mk hb.size; clear hV hb hx0 hx1 hx2 y2) | ((with_reducible refine gate_dst (N := 24) rfl ?_); obtain ⟨w5, hw5⟩ : ∃ w5, w4.alloc (.cells #[.int .u8 t.f0, .int .u16 t.f1, .slice A4 t.f2.length c4] 25 (0, 0)) = w5 := ⟨_, rfl⟩; have hbox := blk_new w4 (.cells #[.int .u8 t.f0, .int .u16 t.f1, .slice A4 t.f2.length c4] 25 (0, 0)); have hb : Below w4.heap.size w4 (w4.alloc (.cells #[.int .u8 t.f0, .int .u16 t.f1, .slice A4 t.f2.length c4] 25 (0, 0))) := below_alloc (Below.refl _ _) _; rw [hw5] at hbox hb ⊢; have HB5 := Aside0.mk (below_in HB4.out hb); have BKb5 := Aside0.mk (blk_below BKb4.out hb); have BKr5 := Aside0.mk (blk_below BKr4.out hb); have BKz5 := Aside0.mk (blk_below BKz4.out hb); have HO5 := Aside0.mk (Kd.R_below HO4.out hb); have HV5 := Aside0.mk (Kd.R_below HV4.out hb); have HS5 := Aside0.mk (Nat.le_trans HS4.out hb.size); obtain ⟨gx, hgx⟩ : ∃ gx, w4.heap.size = gx := ⟨_, rfl⟩; rw [hgx] at hbox ⊢; have BKx5 := Aside0.mk hbox; clear hw5 hgx hbox hb; have q0 : w5.cell? ⟨gx, 0, none⟩ = some (.int .u8 t.f0) := (blk_cell BKx5.out 0).trans rfl; have q1 : w5.cell? ⟨gx, 1, none⟩ = some (.int .u16 t.f1) := (blk_cell BKx5.out 1).trans rfl; have q2 : w5.cell? ⟨gx, 2, none⟩ = some (.slice A4 t.f2.length c4) := (blk_cell BKx5.out 2).trans rfl; have y0 : w5.cell? ⟨gb, 0, none⟩ = some (.int .u8 x.f0) := (blk_cell BKb5.out 0).trans rfl) | ((with_reducible refine gate_dst (N := 28) rfl ?_); refine lit_event ?hg (N := 28) ?hd (cs := #[.int .u8 t.f0, .int .u16 t.f1, .slice A4 t.f2.length c4]) (t := 25) ?hr ?_; (case hd => rfl); (case hg => rfl); (case hr => first | (go_simp; done) | (go_simp; rfl)); intro gl hgl w6 hw6; have hb : Below w5.heap.size w5 w6 := hw6 ▸ below_alloc (Below.refl _ _) _; have HL6 := Aside0.mk (show Kd.R k25 25 w6 w.heap.size (fun k => k ≠ gb ∧ k ≠ gr ∧ k ≠ gz) (.slice (some ⟨gl, 0, none⟩) 1 1) [t] by rw [← hw6, ← hgl]; exact row_one HV5.out HB5.out.size (fun k hk => ⟨Kd.freshB BKb.out k hk, Kd.freshB BKr.out k hk, Kd.freshB BKz.out k hk⟩) ⟨Kd.freshB BKb5.out _ (Nat.le_refl _), Kd.freshB BKr5.out _ (Nat.le_refl _), Kd.freshB BKz5.out _ (Nat.le_refl _)⟩); have HB6 := Aside0.mk (below_in HB5.out hb); have BKb6 := Aside0.mk (blk_below BKb5.out hb); have BKr6 := Aside0.mk (blk_below BKr5.out hb); have BKz6 := Aside0.mk (blk_below BKz5.out hb); have HNb := Aside0.mk (show some gb ≠ (Value.slice (some ⟨gl, 0, none⟩) 1 1).ownBlock from fun e => by simp [Value.ownBlock] at e; have := blk_lt BKb5.out; omega); have HNr := Aside0.mk (show some gr ≠ (Value.slice (some ⟨gl, 0, none⟩) 1 1).ownBlock from fun e => by simp [Value.ownBlock] at e; have := blk_lt BKr5.out; omega); have HNz := Aside0.mk (show some gz ≠ (Value.slice (some ⟨gl, 0, none⟩) 1 1).ownBlock from fun e => by simp [Value.ownBlock] at e; have := blk_lt BKz5.out; omega); have HRD := Aside0.mk (row_rd HO5.out hb (Nat.le_of_eq hgl)); have oz : w6.cell? ⟨gz, 2, none⟩ = some (.slice Au out.length cu) := (blk_cell BKz6.out 2).trans rfl; clear hgl hw6 hb) | (at_builtin; refine Kd.R_append_rows k25 (Rr := fun q cs => k25.M w6 w.heap.size (fun k => (k ≠ gb ∧ k ≠ gr ∧ k ≠ gz) ∧ some k ≠ (Value.slice (some ⟨gl, 0, none⟩) 1 1).ownBlock) q cs) (w0 := w) w.heap.size (by rfl) (.tmp 28) (.tmp 30) 23 25 (.agg #[.int .u8 0, .int .u16 0, .slice none 0 0]) 32 rfl Try.underlying23 info25 rfl (by decide) (by omega) (.slice (some ⟨gl, 0, none⟩) 1 1) [t] out Au out.length cu (fun k => k ≠ gb ∧ k ≠ gr ∧ k ≠ gz) (fun k => (k ≠ gb ∧ k ≠ gr ∧ k ≠ gz) ∧ some k ≠ (Value.slice (some ⟨gl, 0, none⟩) 1 1).ownBlock) rfl rfl ?c1 ?c2 ?c3 ?c4 ?c5 ?c6 ?c7 ?c8 ?_))
          case c1 => exact HL6.out
          case c2 => exact HRD.out
          case c3 => exact fun _ _ h => h
          case c4 => exact fun _ h => h
          case c5 => exact fun k hk => ⟨Kd.freshB BKb6.out k hk, Kd.freshB BKr6.out k hk, Kd.freshB BKz6.out k hk⟩
          case c6 => exact HB6.out
          case c7 => exact HB6.out.size
          case c8 => have := HLN.out; simp; omega
          intro v1 w7 hR7 hB7 hg7 hat7
          obtain ⟨A7, c7, rfl⟩ := Kd.R_slice hR7
          rw [List.length_cons] at hR7
          have HR7 := Aside0.mk hR7
          have HB7 := Aside0.mk hB7
          have BKb7 := Aside0.mk (blk_grown BKb6.out hg7 HNb.out)
          have BKr7 := Aside0.mk (blk_grown BKr6.out hg7 HNr.out)
          have BKz7 := Aside0.mk (blk_grown BKz6.out hg7 HNz.out)
          have o2 : w7.cell? ⟨gz, 2, none⟩ = some (.slice Au out.length cu) := (blk_cell BKz7.out 2).trans rfl
          have f2 := blk_frozen BKz7.out 2
          clear hR7 hB7 hg7 hat7 oz
          go_wp2
          go_roundw
          case rel => exact ⟨i + 1, _, _, by omega, by go_num, HST, ⟨Kd.R_far (p := ⟨gz, 2, none⟩) HR7.out (fun k hk => hk.2.2) _⟩, ⟨blk_far BKb7.out HBZ.out _⟩, ⟨blk_far BKr7.out HRZ.out _⟩, ⟨blk_put BKz7.out 2 _ rfl⟩, ⟨below_set' HB7.out HGZ.out _ _⟩⟩
          case measure => simp [intOf]; omega
        · have d2 : (x.f0 == 2) = false := by rw [beq_eq_false_iff_ne]; exact hk2
          have HST := Aside0.mk (show out ++ [t] = outN n x (i + 1) by rw [HK.out hk2, HOUT.out])
          clear hk2
          go_wp2_with (first | (go_at_call 22; have hh := IHH.out y t A2 c2 wr HY.out HT.out (Kd.C_below HC2.out HB.out) hl2; with_reducible refine hh.mono ?_; clear hh; rintro e w4 ⟨v2, rfl, hV, hb⟩; obtain ⟨A4, c4, rfl⟩ := Kd.R_slice hV; have HB4 := Aside0.mk (below_in HB.out hb); have BKb4 := Aside0.mk (blk_below BKb.out hb); have BKr4 := Aside0.mk (blk_below BKr.out hb); have BKz4 := Aside0.mk (blk_below BKz.out hb); have HO4 := Aside0.mk (Kd.R_below HO.out hb); have HV4 := Aside0.mk (Kd.R_lower (Kd.R_mono (ok' := fun k => wr.heap.size ≤ k) (Kd.R_bound hV) (fun k hk => hk.2.1)) HB.out.size); have HS4 := Aside0.mk hb.size; clear hV hb hx0 hx1 hx2 y2) | ((with_reducible refine gate_dst (N := 24) rfl ?_); obtain ⟨w5, hw5⟩ : ∃ w5, w4.alloc (.cells #[.int .u8 t.f0, .int .u16 t.f1, .slice A4 t.f2.length c4] 25 (0, 0)) = w5 := ⟨_, rfl⟩; have hbox := blk_new w4 (.cells #[.int .u8 t.f0, .int .u16 t.f1, .slice A4 t.f2.length c4] 25 (0, 0)); have hb : Below w4.heap.size w4 (w4.alloc (.cells #[.int .u8 t.f0, .int .u16 t.f1, .slice A4 t.f2.length c4] 25 (0, 0))) := below_alloc (Below.refl _ _) _; rw [hw5] at hbox hb ⊢; have HB5 := Aside0.mk (below_in HB4.out hb); have BKb5 := Aside0.mk (blk_below BKb4.out hb); have BKr5 := Aside0.mk (blk_below BKr4.out hb); have BKz5 := Aside0.mk (blk_below BKz4.out hb); have HO5 := Aside0.mk (Kd.R_below HO4.out hb); have HV5 := Aside0.mk (Kd.R_below HV4.out hb); have HS5 := Aside0.mk (Nat.le_trans HS4.out hb.size); obtain ⟨gx, hgx⟩ : ∃ gx, w4.heap.size = gx := ⟨_, rfl⟩; rw [hgx] at hbox ⊢; have BKx5 := Aside0.mk hbox; clear hw5 hgx hbox hb; have q0 : w5.cell? ⟨gx, 0, none⟩ = some (.int .u8 t.f0) := (blk_cell BKx5.out 0).trans rfl; have q1 : w5.cell? ⟨gx, 1, none⟩ = some (.int .u16 t.f1) := (blk_cell BKx5.out 1).trans rfl; have q2 : w5.cell? ⟨gx, 2, none⟩ = some (.slice A4 t.f2.length c4) := (blk_cell BKx5.out 2).trans rfl; have y0 : w5.cell? ⟨gb, 0, none⟩ = some (.int .u8 x.f0) := (blk_cell BKb5.out 0).trans rfl; have o2 : w5.cell? ⟨gz, 2, none⟩ = some (.slice Au out.length cu) := (blk_cell BKz5.out 2).trans rfl) | (at_builtin; refine Kd.R_append k25 (w0 := w) (W := w5) w.heap.size (by rfl) (.tmp 34) (.tmp 36) 23 25 (.agg #[.int .u8 0, .int .u16 0, .slice none 0 0]) 32 rfl Try.underlying23 info25 rfl (by decide) (by omega) (.slice Au out.length cu) out t [.int .u8 t.f0, .int .u16 t.f1, .slice A4 t.f2.length c4] (fun k => k ≠ gb ∧ k ≠ gr ∧ k ≠ gz) (fun k => (k ≠ gb ∧ k ≠ gr ∧ k ≠ gz) ∧ some k ≠ (Value.slice Au out.length cu).ownBlock) rfl rfl ?c1 ?c2 ?c3 ?c4 ?c5 ?c6 ?c7 ?_))
          case c1 => exact k25_mkM _ _ _ t (Kd.R_mono HV5.out (fun k hk => ⟨⟨Kd.freshB BKb.out k hk, Kd.freshB BKr.out k hk, Kd.freshB BKz.out k hk⟩, fun e => by have := Kd.R_lt HO.out k e.symm; omega⟩))
          case c2 => exact fun _ h => h
          case c3 => exact fun k hk => ⟨Kd.freshB BKb5.out k hk, Kd.freshB BKr5.out k hk, Kd.freshB BKz5.out k hk⟩
          case c4 => exact HO5.out
          case c5 => exact HB5.out
          case c6 => exact HB5.out.size
          case c7 => have := HLN.out; omega
          intro v1 w7 hR7 hB7 hg7 hat7
          obtain ⟨A7, c7, rfl⟩ := Kd.R_slice hR7
          rw [show (out ++ [t]).length = out.length + 1 by simp] at hR7
          have HR7 := Aside0.mk hR7
          have HB7 := Aside0.mk hB7
          have BKb7 := Aside0.mk (blk_grown BKb5.out hg7 (Kd.R_away HO5.out (fun k hk => hk.1)))
          have BKr7 := Aside0.mk (blk_grown BKr5.out hg7 (Kd.R_away HO5.out (fun k hk => hk.2.1)))
          have BKz7 := Aside0.mk (blk_grown BKz5.out hg7 (Kd.R_away HO5.out (fun k hk => hk.2.2)))
          have oz : w7.cell? ⟨gz, 2, none⟩ = some (.slice Au out.length cu) := (blk_cell BKz7.out 2).trans rfl
          have f2 := blk_frozen BKz7.out 2
          clear hR7 hB7 hg7 hat7
          go_wp2
          go_roundw
          case rel => exact ⟨i + 1, _, _, by omega, by go_num, HST, ⟨Kd.R_far (p := ⟨gz, 2, none⟩) HR7.out (fun k hk => hk.2.2) _⟩, ⟨blk_far BKb7.out HBZ.out _⟩, ⟨blk_far BKr7.out HRZ.out _⟩, ⟨blk_put BKz7.out 2 _ rfl⟩, ⟨below_set' HB7.out HGZ.out _ _⟩⟩
          case measure => simp [intOf]; omega
      · obtain rfl : i = x.f2.length := by omega
        have HE := Aside0.mk (show out = t0.f2 from HOUT.out.trans HT2.out)
        have y2 : wr.cell? ⟨gb, 2, none⟩ = some (.slice A x.f2.length c) := (blk_cell BKb.out 2).trans rfl
        have z0 : wr.cell? ⟨gz, 0, none⟩ = some (.int .u8 x.f0) := (blk_cell BKz.out 0).trans rfl
        have z1 : wr.cell? ⟨gz, 1, none⟩ = some (.int .u16 x.f1) := (blk_cell BKz.out 1).trans rfl
        have z2 : wr.cell? ⟨gz, 2, none⟩ = some (.slice Au out.length cu) := (blk_cell BKz.out 2).trans rfl
        have r0 : wr.cell? ⟨gr, 0, none⟩ = some (.int .u8 0) := (blk_cell BKr.out 0).trans rfl
        have r1 : wr.cell? ⟨gr, 1, none⟩ = some (.int .u16 0) := (blk_cell BKr.out 1).trans rfl
        have r2 : wr.cell? ⟨gr, 2, none⟩ = some (.slice none 0 0) := (blk_cell BKr.out 2).trans rfl
        have f0 := blk_frozen BKr.out 0
        have f1 := blk_frozen BKr.out 1
        have f2 := blk_frozen BKr.out 2
        have n1 := HRZ.out
        have n2 := HRZ.out.symm
        go_wp2
        refine bodyPost_ret (results_cell_row rfl _ _ gr 25 #[.int .u8 x.f0, .int .u16 x.f1, .slice Au out.length cu] (0, 0) _ rfl (by refine blk_put (cs := #[.int .u8 x.f0, .int .u16 x.f1, .slice none 0 0]) ?_ 2 _ rfl; refine blk_put (cs := #[.int .u8 x.f0, .int .u16 0, .slice none 0 0]) ?_ 1 _ rfl; refine blk_put (cs := #[.int .u8 0, .int .u16 0, .slice none 0 0]) ?_ 0 _ rfl; exact BKr.out) Try.underlying25 rfl (by kernel_rfl)) rfl ?_
        have hE := HE.out
        subst hE
        exact ⟨_, rfl, Kd.R_mono (Kd.R_far (p := ⟨gr, 2, none⟩) (Kd.R_far (p := ⟨gr, 1, none⟩) (Kd.R_far (p := ⟨gr, 0, none⟩) HO.out (fun k hk => hk.2.1) _) (fun k hk => hk.2.1) _) (fun k hk => hk.2.1) _) (fun _ _ => trivial), below_set' (below_set' (below_set' HB.out HGR.out _ _) HGR.out _ _) HGR.out _ _⟩
end Go.Proofs.Ytbhkjaiaglkgjaa

