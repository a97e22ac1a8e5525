/- conflict.faulty: whether a cell has a fault among others, as the functions that it calls tell it. -/
import Derived.Test.YtibgcekekmphoaaGheard
import Derived.Test.YtibgcekekmphoaaP34I
import Derived.Test.YtibgcekekmphoaaP34N
namespace Go.Proofs.Ytibgcekekmphoaa.P34
open Go.RowKit Go.Proofs.YtibgcekekmphoaaW.PrintWords Go.Proofs.YtibgcekekmphoaaW.PrintLast Go.Proofs.YtibgcekekmphoaaW.PrintMore
attribute [local go_sem] max2_int min2_int max_two min_two max_three min_three max_four min_four
set_option linter.unusedVariables false
set_option linter.unusedSimpArgs false

def touchB (c d : S36) : Bool := (c.f2 == d.f2 || c.f2 == d.f3) || (c.f3 == d.f2 || c.f3 == d.f3)
theorem touches_eq (c d : S36) : conflict_touches.f c.f0 c.f1 c.f2 c.f3 c.f4 d.f0 d.f1 d.f2 d.f3 d.f4 = some (touchB c d) := by
  unfold conflict_touches.f touchB
  generalize c.f2 = a
  generalize c.f3 = b
  generalize d.f2 = x
  generalize d.f3 = y
  by_cases h1 : a = x
  · rw [if_pos h1]; simp [h1]
  · rw [if_neg h1]
    by_cases h2 : a = y
    · rw [if_pos h2]; simp [h2]
    · rw [if_neg h2]
      by_cases h3 : b = x
      · rw [if_pos h3]; simp [h3]
      · rw [if_neg h3, beq_eq_false_iff_ne.mpr h1, beq_eq_false_iff_ne.mpr h2, beq_eq_false_iff_ne.mpr h3]; rfl
def touchesAny (l1 : List S36) (i : Int) : Bool := (List.range l1.length).any fun t => decide ((t : Int) ≠ i) && touchB (rd_T36 l1 i) (rd_T36 l1 (t : Int))
def heard.f (k : Nat) (a0_0 : Int) (l0_1 : List (List Int)) (a0_2 : Int) (a0_3 : Int) (l0_4 : List (S44)) (l0_5 : List Int) (l1 : List S36) (a2 link nd : Int) : Option Bool :=
  if 0 ≤ link ∧ link < (l0_5.length : Int) then (conflict_disturbance.f k a0_0 l0_1 a0_2 a0_3 l0_4 l0_5 l1 a2 nd).bind fun d => network_Hears.f k a0_0 l0_1 a0_2 a0_3 l0_4 l0_5 (rd l0_5 link) d else none
def conflict_faulty.f (k : Nat) (a0_0 : Int) (l0_1 : List (List Int)) (a0_2 : Int) (a0_3 : Int) (l0_4 : List (S44)) (l0_5 : List Int) (l1 : List S36) (a2 : Int) : Option Bool :=
  if 0 ≤ a2 ∧ a2 < (l1.length : Int) then
    (network_Index.f k a0_0 l0_1 a0_2 a0_3 l0_4 l0_5 (rd_T36 l1 a2).f2 (rd_T36 l1 a2).f3).bind fun th => (network_Index.f k a0_0 l0_1 a0_2 a0_3 l0_4 l0_5 (rd_T36 l1 a2).f3 (rd_T36 l1 a2).f2).bind fun bk =>
      (network_Usable.f k a0_0 l0_1 a0_2 a0_3 l0_4 l0_5 th).bind fun us => if us = true then (if touchesAny l1 a2 = true then some true else
        (heard.f k a0_0 l0_1 a0_2 a0_3 l0_4 l0_5 l1 a2 th (rd_T36 l1 a2).f3).bind fun h1 => if h1 = true then (heard.f k a0_0 l0_1 a0_2 a0_3 l0_4 l0_5 l1 a2 bk (rd_T36 l1 a2).f2).bind fun h2 => some (!h2) else some true) else some true
  else none
theorem heard.mono : ∀ a0 a1 a2 a3 a4 a5 a6 a7 a8 a9 k, LeO (heard.f k a0 a1 a2 a3 a4 a5 a6 a7 a8 a9) (heard.f (k + 1) a0 a1 a2 a3 a4 a5 a6 a7 a8 a9) := by
  intro a0 a1 a2 a3 a4 a5 a6 a7 a8 a9 k
  unfold heard.f
  repeat' first
    | exact network_Hears.mono _ _ _ _ _ _ _ _ _
    | exact conflict_disturbance.mono _ _ _ _ _ _ _ _ _ _
    | exact LeO.refl _
    | refine LeO.ite ?_ ?_
    | refine LeO.bind ?_ (fun _ => ?_)
theorem conflict_faulty.mono : ∀ a0 a1 a2 a3 a4 a5 a6 a7 k, LeO (conflict_faulty.f k a0 a1 a2 a3 a4 a5 a6 a7) (conflict_faulty.f (k + 1) a0 a1 a2 a3 a4 a5 a6 a7) := by
  intro a0 a1 a2 a3 a4 a5 a6 a7 k
  unfold conflict_faulty.f
  repeat' first
    | exact network_Index.mono _ _ _ _ _ _ _ _ _
    | exact network_Usable.mono _ _ _ _ _ _ _ _
    | exact heard.mono _ _ _ _ _ _ _ _ _ _ _
    | exact LeO.refl _
    | refine LeO.ite ?_ ?_
    | refine LeO.bind ?_ (fun _ => ?_)

set_option maxRecDepth 100000 in
set_option maxHeartbeats 8000000 in
theorem conflict_faulty.calls (k : Nat) (a0_0 : Int) (A0_1 : Option Addr) (c0_1 : Nat) (l0_1 : List (List Int)) (a0_2 : Int) (a0_3 : Int) (A0_4 : Option Addr) (c0_4 : Nat) (l0_4 : List (S44)) (A0_5 : Option Addr) (c0_5 : Nat) (l0_5 : List Int) (A1 : Option Addr) (c1 : Nat) (l1 : List (S36)) (a2 : Int) (r : Bool) (w : World) (hr0_1 : Kd.C (Kd.slice 3 (Kd.int .i64)) w A0_1 l0_1.length l0_1) (hc0_1 : l0_1.length ≤ c0_1) (hr0_4 : Kd.C k44 w A0_4 l0_4.length l0_4) (hc0_4 : l0_4.length ≤ c0_4) (hr0_5 : Kd.C (Kd.int .i64) w A0_5 l0_5.length l0_5) (hc0_5 : l0_5.length ≤ c0_5) (hr1 : Kd.C k36 w A1 l1.length l1) (hc1 : l1.length ≤ c1) (h : conflict_faulty.f k a0_0 l0_1 a0_2 a0_3 l0_4 l0_5 l1 a2 = some r) :
    Calls Try.prog 47 #[.agg #[.int .i64 a0_0, .slice A0_1 l0_1.length c0_1, .int .i64 a0_2, .int .i64 a0_3, .slice A0_4 l0_4.length c0_4, .slice A0_5 l0_5.length c0_5], .slice A1 l1.length c1, .int .i64 a2] w fun e w' => e = .returned (.bool r) ∧ Below w.heap.size w w' := by
  have hu26 := Try.underlying26
  have hu36 := Try.underlying36
  unfold conflict_faulty.f at h
  by_cases hin : 0 ≤ a2 ∧ a2 < (l1.length : Int)
  · rw [if_pos hin] at h
    obtain ⟨hi0, hi1⟩ := hin
    obtain ⟨th, hth, h2⟩ := Option.bind_eq_some_iff.mp h
    clear h
    obtain ⟨bk, hbk, h3⟩ := Option.bind_eq_some_iff.mp h2
    clear h2
    obtain ⟨us, hus, h⟩ := Option.bind_eq_some_iff.mp h3
    clear h3
    obtain ⟨ad, rfl, x0, x1, x2, x3, x4⟩ := at_T36 hr1 a2 hi0 hi1
    have HI1 := Aside0.mk (fun (W : World) (hb : Below w.heap.size w W) => network_Index.calls k a0_0 A0_1 c0_1 l0_1 a0_2 a0_3 A0_4 c0_4 l0_4 A0_5 c0_5 l0_5 _ _ th W (Kd.C_below hr0_1 hb) hc0_1 (Kd.C_below hr0_4 hb) hc0_4 (Kd.C_below hr0_5 hb) hc0_5 hth)
    have HI2 := Aside0.mk (fun (W : World) (hb : Below w.heap.size w W) => network_Index.calls k a0_0 A0_1 c0_1 l0_1 a0_2 a0_3 A0_4 c0_4 l0_4 A0_5 c0_5 l0_5 _ _ bk W (Kd.C_below hr0_1 hb) hc0_1 (Kd.C_below hr0_4 hb) hc0_4 (Kd.C_below hr0_5 hb) hc0_5 hbk)
    have HU := Aside0.mk (fun (W : World) (hb : Below w.heap.size w W) => network_Usable.calls k a0_0 A0_1 c0_1 l0_1 a0_2 a0_3 A0_4 c0_4 l0_4 A0_5 c0_5 l0_5 th us W (Kd.C_below hr0_1 hb) hc0_1 (Kd.C_below hr0_4 hb) hc0_4 (Kd.C_below hr0_5 hb) hc0_5 hus)
    have HH := Aside0.mk (fun (link nd : Int) (b : Bool) (hh : heard.f k a0_0 l0_1 a0_2 a0_3 l0_4 l0_5 l1 a2 link nd = some b) (B BL BI : Nat) (W : World) (hb : Below w.heap.size w W) (hB : W.heap[B]? = some (.cells #[.int .i64 a0_0, .slice A0_1 l0_1.length c0_1, .int .i64 a0_2, .int .i64 a0_3, .slice A0_4 l0_4.length c0_4, .slice A0_5 l0_5.length c0_5] 26 (0, 0))) (hL : W.heap[BL]? = some (.cells #[.slice (some ad) l1.length c1] 27 (0, 0))) (hI : W.heap[BI]? = some (.cells #[.int .i64 a2] 3 (0, 0))) => (show Calls Try.prog 73 #[.int .i64 link, .int .i64 nd, .pointer (some ⟨B, 0, none⟩), .pointer (some ⟨BL, 0, none⟩), .pointer (some ⟨BI, 0, none⟩)] W fun e w' => e = .returned (.bool b) ∧ Below W.heap.size W w' from by
      unfold heard.f at hh
      split at hh
      · rename_i hl
        obtain ⟨d, hd, hh⟩ := Option.bind_eq_some_iff.mp hh
        exact call73 k B BL BI a0_0 A0_1 c0_1 l0_1 a0_2 a0_3 A0_4 c0_4 l0_4 A0_5 c0_5 l0_5 (some ad) c1 l1 a2 link nd d b W (Kd.C_below hr0_1 hb) hc0_1 (Kd.C_below hr0_4 hb) hc0_4 (Kd.C_below hr0_5 hb) hc0_5 (Kd.C_below hr1 hb) hc1 hB hL hI hl.1 hl.2 hd hh
      · cases hh))
    have HT := Aside0.mk (fun (d : S36) (W : World) => conflict_touches.calls (rd_T36 l1 a2).f0 (rd_T36 l1 a2).f1 (rd_T36 l1 a2).f2 (rd_T36 l1 a2).f3 (rd_T36 l1 a2).f4 d.f0 d.f1 d.f2 d.f3 d.f4 _ W (touches_eq (rd_T36 l1 a2) d))
    have hn1 := hr1.2.1
    have HR1 := Aside0.mk hr1
    have htc : ∀ d, touchB (rd_T36 l1 a2) d = touchB (rd_T36 l1 a2) d := fun _ => rfl
    obtain ⟨cc, hcc⟩ : ∃ cc, cc = rd_T36 l1 a2 := ⟨_, rfl⟩
    have H := Aside0.mk h
    rw [← hcc] at x0 x1 x2 x3 x4 HI1 HI2 HT H
    have HTA : Aside0 (touchesAny l1 a2 = (List.range l1.length).any fun t => decide ((t : Int) ≠ a2) && touchB cc (rd_T36 l1 (t : Int))) := ⟨by rw [hcc]; rfl⟩
    clear h hth hbk hus hr0_1 hr0_4 hr0_5 hr1 hc0_1 hc0_4 hc0_5 hc1 htc hcc
    have X0 := Aside0.mk x0
    have X1 := Aside0.mk x1
    have X2 := Aside0.mk x2
    have X3 := Aside0.mk x3
    have X4 := Aside0.mk x4
    clear x0 x1 x2 x3 x4
    go_enter Try.func47, Try.ntmps47
    go_wp2_with (first | ((with_reducible refine gate_dst (N := 3) rfl ?_); refine box_event ?hg (N := 3) ?hd (cs := #[.int .i64 a0_0, .slice A0_1 l0_1.length c0_1, .int .i64 a0_2, .int .i64 a0_3, .slice A0_4 l0_4.length c0_4, .slice A0_5 l0_5.length c0_5]) (t := 26) ?hr ?_; (case hd => rfl); (case hg => rfl); (case hr => first | (go_simp; done) | (go_simp; rfl)); intro gb hg w4 hbox hb; have Bgb := Aside0.mk hbox; have Hgb := Aside0.mk hb; have Ggb := Aside0.mk hg; have z0 := (blk_cell hbox 0).trans rfl; have z1 := (blk_cell hbox 1).trans rfl; have z2 := (blk_cell hbox 2).trans rfl; have z3 := (blk_cell hbox 3).trans rfl; have z4 := (blk_cell hbox 4).trans rfl; have z5 := (blk_cell hbox 5).trans rfl; clear hb hbox hg) | ((with_reducible refine gate_dst (N := 4) rfl ?_); refine box_event ?hg (N := 4) ?hd (cs := #[.slice (some ad) l1.length c1]) (t := 27) ?hr ?_; (case hd => rfl); (case hg => rfl); (case hr => first | (go_simp; done) | (go_simp; rfl)); intro gL hg w5 hbox hb; have BgL := Aside0.mk hbox; have HgL := Aside0.mk hb; have GgL := Aside0.mk hg; have hzgL_0 := (blk_cell hbox 0).trans rfl; clear hb hbox hg; have B5 := Aside0.mk (blk_below Bgb.out HgL.out)) | ((with_reducible refine gate_dst (N := 5) rfl ?_); refine box_event ?hg (N := 5) ?hd (cs := #[.int .i64 a2]) (t := 3) ?hr ?_; (case hd => rfl); (case hg => rfl); (case hr => first | (go_simp; done) | (go_simp; rfl)); intro gI hg w6 hbox hb; have BgI := Aside0.mk hbox; have HgI := Aside0.mk hb; have GgI := Aside0.mk hg; have hzgI_0 := (blk_cell hbox 0).trans rfl; clear hb hbox hg; have B6 := Aside0.mk (blk_below B5.out HgI.out); have L6 := Aside0.mk (blk_below BgL.out HgI.out); have D6 := Aside0.mk (below_step (below_step Hgb.out HgL.out) HgI.out); have l0 := (blk_cell L6.out 0).trans rfl; have y0 := (D6.out.cell (World.block_lt_of_cell? w _ X0.out)).trans X0.out; have y1 := (D6.out.cell (World.block_lt_of_cell? w _ X1.out)).trans X1.out; have y2 := (D6.out.cell (World.block_lt_of_cell? w _ X2.out)).trans X2.out; have y3 := (D6.out.cell (World.block_lt_of_cell? w _ X3.out)).trans X3.out; have y4 := (D6.out.cell (World.block_lt_of_cell? w _ X4.out)).trans X4.out) | ((with_reducible refine gate_dst (N := 7) rfl ?_); refine box_event ?hg (N := 7) ?hd (cs := #[.int .i64 0, .int .i64 0, .int .i64 0, .int .i64 0, .int .i64 0]) (t := 36) ?hr ?_; (case hd => rfl); (case hg => rfl); (case hr => first | (go_simp; done) | (go_simp; rfl)); intro gc hg w7 hbox hb; have Bgc := Aside0.mk hbox; have Hgc := Aside0.mk hb; have Ggc := Aside0.mk hg; have hzgc_0 := (blk_cell hbox 0).trans rfl; have hzgc_1 := (blk_cell hbox 1).trans rfl; have hzgc_2 := (blk_cell hbox 2).trans rfl; have hzgc_3 := (blk_cell hbox 3).trans rfl; have hzgc_4 := (blk_cell hbox 4).trans rfl; clear hb hbox hg; have hf0 := blk_frozen Bgc.out 0; have hf1 := blk_frozen Bgc.out 1; have hf2 := blk_frozen Bgc.out 2; have hf3 := blk_frozen Bgc.out 3; have hf4 := blk_frozen Bgc.out 4))
    have KL : gb ≠ gc ∧ gL ≠ gc ∧ gI ≠ gc := by
      have e1 := blk_lt Bgb.out; have e2 := HgL.out.size; have e3 := HgI.out.size; have e4 := blk_lt BgL.out; have e5 := blk_lt BgI.out; have e6 := Ggc.out
      exact ⟨by omega, by omega, by omega⟩
    have hgc : w.heap.size ≤ gc := by rw [Ggc.out]; exact D6.out.size
    have PC : Aside0 ((((((w7.setCell ⟨gc, 0, none⟩ (.int .i64 cc.f0)).setCell ⟨gc, 1, none⟩ (.int .i64 cc.f1)).setCell ⟨gc, 2, none⟩ (.int .i64 cc.f2)).setCell ⟨gc, 3, none⟩ (.int .i64 cc.f3)).setCell ⟨gc, 4, none⟩ (.int .i64 cc.f4)).heap[gc]? = some (.cells #[.int .i64 cc.f0, .int .i64 cc.f1, .int .i64 cc.f2, .int .i64 cc.f3, .int .i64 cc.f4] 36 (0, 0))) := ⟨blk_set (blk_set (blk_set (blk_set (blk_set Bgc.out 0 _) 1 _) 2 _) 3 _) 4 _⟩
    have D7 : Aside0 (Below w.heap.size w (((((w7.setCell ⟨gc, 0, none⟩ (.int .i64 cc.f0)).setCell ⟨gc, 1, none⟩ (.int .i64 cc.f1)).setCell ⟨gc, 2, none⟩ (.int .i64 cc.f2)).setCell ⟨gc, 3, none⟩ (.int .i64 cc.f3)).setCell ⟨gc, 4, none⟩ (.int .i64 cc.f4))) := ⟨below_set (below_set (below_set (below_set (below_set (below_step D6.out Hgc.out) hgc) hgc) hgc) hgc) hgc⟩
    have PB : Aside0 ((((((w7.setCell ⟨gc, 0, none⟩ (.int .i64 cc.f0)).setCell ⟨gc, 1, none⟩ (.int .i64 cc.f1)).setCell ⟨gc, 2, none⟩ (.int .i64 cc.f2)).setCell ⟨gc, 3, none⟩ (.int .i64 cc.f3)).setCell ⟨gc, 4, none⟩ (.int .i64 cc.f4)).heap[gb]? = some (.cells #[.int .i64 a0_0, .slice A0_1 l0_1.length c0_1, .int .i64 a0_2, .int .i64 a0_3, .slice A0_4 l0_4.length c0_4, .slice A0_5 l0_5.length c0_5] 26 (0, 0))) := ⟨blk_far (blk_far (blk_far (blk_far (blk_far (blk_below B6.out Hgc.out) KL.1 _) KL.1 _) KL.1 _) KL.1 _) KL.1 _⟩
    have PL : Aside0 ((((((w7.setCell ⟨gc, 0, none⟩ (.int .i64 cc.f0)).setCell ⟨gc, 1, none⟩ (.int .i64 cc.f1)).setCell ⟨gc, 2, none⟩ (.int .i64 cc.f2)).setCell ⟨gc, 3, none⟩ (.int .i64 cc.f3)).setCell ⟨gc, 4, none⟩ (.int .i64 cc.f4)).heap[gL]? = some (.cells #[.slice (some ad) l1.length c1] 27 (0, 0))) := ⟨blk_far (blk_far (blk_far (blk_far (blk_far (blk_below L6.out Hgc.out) KL.2.1 _) KL.2.1 _) KL.2.1 _) KL.2.1 _) KL.2.1 _⟩
    have PI : Aside0 ((((((w7.setCell ⟨gc, 0, none⟩ (.int .i64 cc.f0)).setCell ⟨gc, 1, none⟩ (.int .i64 cc.f1)).setCell ⟨gc, 2, none⟩ (.int .i64 cc.f2)).setCell ⟨gc, 3, none⟩ (.int .i64 cc.f3)).setCell ⟨gc, 4, none⟩ (.int .i64 cc.f4)).heap[gI]? = some (.cells #[.int .i64 a2] 3 (0, 0))) := ⟨blk_far (blk_far (blk_far (blk_far (blk_far (blk_below BgI.out Hgc.out) KL.2.2 _) KL.2.2 _) KL.2.2 _) KL.2.2 _) KL.2.2 _⟩
    clear KL hgc z0 z1 z2 z3 z4 z5 y0 y1 y2 y3 y4 hf0 hf1 hf2 hf3 hf4 l0 hzgL_0 hzgI_0 hzgc_0 hzgc_1 hzgc_2 hzgc_3 hzgc_4
    clear Bgb Hgb Ggb B5 BgL HgL GgL B6 L6 D6 BgI HgI GgI Bgc Hgc Ggc
    generalize (((((w7.setCell ⟨gc, 0, none⟩ (.int .i64 cc.f0)).setCell ⟨gc, 1, none⟩ (.int .i64 cc.f1)).setCell ⟨gc, 2, none⟩ (.int .i64 cc.f2)).setCell ⟨gc, 3, none⟩ (.int .i64 cc.f3)).setCell ⟨gc, 4, none⟩ (.int .i64 cc.f4)) = wA at PC D7 PB PL PI ⊢
    clear w4 w5 w6 w7
    obtain ⟨C0, e0⟩ : ∃ x, x = cc.f0 := ⟨_, rfl⟩
    obtain ⟨C1, e1⟩ : ∃ x, x = cc.f1 := ⟨_, rfl⟩
    obtain ⟨C2, e2⟩ : ∃ x, x = cc.f2 := ⟨_, rfl⟩
    obtain ⟨C3, e3⟩ : ∃ x, x = cc.f3 := ⟨_, rfl⟩
    obtain ⟨C4, e4⟩ : ∃ x, x = cc.f4 := ⟨_, rfl⟩
    rw [← e0, ← e1, ← e2, ← e3, ← e4] at PC HT ⊢
    rw [← e2, ← e3] at HI1 HI2 H
    clear e0 e1 e2 e3 e4 X0 X1 X2 X3 X4
    have z0 := (blk_cell PB.out 0).trans rfl; have z1 := (blk_cell PB.out 1).trans rfl; have z2 := (blk_cell PB.out 2).trans rfl; have z3 := (blk_cell PB.out 3).trans rfl; have z4 := (blk_cell PB.out 4).trans rfl; have z5 := (blk_cell PB.out 5).trans rfl
    have y2 := (blk_cell PC.out 2).trans rfl
    have y3 := (blk_cell PC.out 3).trans rfl
    go_region_held3 (fun w' => w'.cell? ⟨gb, 0, none⟩ = some (.int .i64 a0_0) ∧ w'.cell? ⟨gb, 1, none⟩ = some (.slice A0_1 l0_1.length c0_1) ∧ w'.cell? ⟨gb, 2, none⟩ = some (.int .i64 a0_2) ∧ w'.cell? ⟨gb, 3, none⟩ = some (.int .i64 a0_3) ∧ w'.cell? ⟨gb, 4, none⟩ = some (.slice A0_4 l0_4.length c0_4) ∧ w'.cell? ⟨gb, 5, none⟩ = some (.slice A0_5 l0_5.length c0_5) ∧ w'.cell? ⟨gc, 2, none⟩ = some (.int .i64 C2) ∧ w'.cell? ⟨gc, 3, none⟩ = some (.int .i64 C3))
      (first | go_keep | (go_split_ands; refine ⟨?_, ?_, ?_, ?_, ?_, ?_, ?_, ?_⟩ <;> exact (hb9.cell (World.block_lt_of_cell? _ _ (by assumption))).trans (by assumption)) | (go_split_ands; refine ⟨?_, ?_, ?_, ?_, ?_, ?_, ?_, ?_⟩ <;> exact (hb8.cell (World.block_lt_of_cell? _ _ (by assumption))).trans (by assumption)))
      (first | (go_at_call 16; ((with_reducible refine (HI1.out _ ?c1).mono ?_); (case c1 => exact below_drew1 D7.out); rintro e w8 ⟨rfl, hb8⟩)) | (go_at_call 16; ((with_reducible refine (HI2.out _ ?c2).mono ?_); (case c2 => exact below_step (below_drew1 D7.out) hb8); rintro e w9 ⟨rfl, hb9⟩)))
    have R9 : Aside0 (Below w.heap.size w w9) := ⟨below_step (below_step (below_drew1 D7.out) hb8) hb9⟩
    have RB := Aside0.mk (blk_below (blk_below (blk_drew PB.out) hb8) hb9)
    have RL := Aside0.mk (blk_below (blk_below (blk_drew PL.out) hb8) hb9)
    have RI := Aside0.mk (blk_below (blk_below (blk_drew PI.out) hb8) hb9)
    have RC := Aside0.mk (blk_below (blk_below (blk_drew PC.out) hb8) hb9)
    rename_i hHeld_
    clear hHeld_ hb8 hb9 D7 PB PL PI PC y2 y3 z0 z1 z2 z3 z4 z5
    have z0 := (blk_cell RB.out 0).trans rfl; have z1 := (blk_cell RB.out 1).trans rfl; have z2 := (blk_cell RB.out 2).trans rfl; have z3 := (blk_cell RB.out 3).trans rfl; have z4 := (blk_cell RB.out 4).trans rfl; have z5 := (blk_cell RB.out 5).trans rfl
    have y3 := (blk_cell RC.out 3).trans rfl
    go_wp2_with fail
    refine (HU.out _ R9.out).mono ?_
    rintro e w10 ⟨rfl, hb10⟩
    replace R9 := Aside0.mk (below_step R9.out hb10)
    replace RB := Aside0.mk (blk_below RB.out hb10)
    replace RL := Aside0.mk (blk_below RL.out hb10)
    replace RI := Aside0.mk (blk_below RI.out hb10)
    replace RC := Aside0.mk (blk_below RC.out hb10)
    clear hb10 z0 z1 z2 z3 z4 z5 y3
    cases us with
    | false =>
      have Hr : Aside0 (r = true) := ⟨(Option.some.inj ((if_neg (by simp)).symm.trans H.out)).symm⟩
      go_wp2
      go_ret
      exact ⟨by rw [Hr.out]; rfl, R9.out⟩
    | true =>
    replace H := Aside0.mk ((if_pos rfl).symm.trans H.out)
    have l0 := (blk_cell RL.out 0).trans rfl
    go_wp2_with fail
    go_loopg [35] l1.length (fun gg v35 wr => ∃ kk : Nat, v35 = .int .i64 kk ∧ Aside0 (kk ≤ l1.length ∧ l1.length - kk ≤ gg) ∧ Aside0 (Below w.heap.size w wr) ∧ Aside0 (wr.heap[gb]? = some (.cells #[.int .i64 a0_0, .slice A0_1 l0_1.length c0_1, .int .i64 a0_2, .int .i64 a0_3, .slice A0_4 l0_4.length c0_4, .slice A0_5 l0_5.length c0_5] 26 (0, 0))) ∧ Aside0 (wr.heap[gL]? = some (.cells #[.slice (some ad) l1.length c1] 27 (0, 0))) ∧ Aside0 (wr.heap[gI]? = some (.cells #[.int .i64 a2] 3 (0, 0))) ∧ Aside0 (wr.heap[gc]? = some (.cells #[.int .i64 C0, .int .i64 C1, .int .i64 C2, .int .i64 C3, .int .i64 C4] 36 (0, 0))) ∧ Aside0 (∀ t, t < kk → (decide ((t : Int) ≠ a2) && touchB cc (rd_T36 l1 (t : Int))) = false))
    case atStart => exact ⟨0, rfl, ⟨Nat.zero_le _, by omega⟩, ⟨R9.out⟩, ⟨RB.out⟩, ⟨RL.out⟩, ⟨RI.out⟩, ⟨RC.out⟩, ⟨fun t ht => absurd ht (Nat.not_lt_zero _)⟩⟩
    case round =>
      clear l0 R9 RB RL RI RC
      obtain ⟨kk, rfl, HK, R9, RB, RL, RI, RC, HA⟩ := hrel
      obtain ⟨hk1, hk2⟩ := HK.out
      by_cases hlt : kk < l1.length
      · have hltz : (kk : Int) < (l1.length : Int) := by omega
        obtain ⟨ad', e', x0, x1, x2, x3, x4⟩ := at_T36 HR1.out (kk : Int) (by omega) (by omega)
        cases e'
        rw [Int.toNat_natCast] at x0 x1 x2 x3 x4
        replace x0 := (R9.out.cell (World.block_lt_of_cell? w _ x0)).trans x0
        replace x1 := (R9.out.cell (World.block_lt_of_cell? w _ x1)).trans x1
        replace x2 := (R9.out.cell (World.block_lt_of_cell? w _ x2)).trans x2
        replace x3 := (R9.out.cell (World.block_lt_of_cell? w _ x3)).trans x3
        replace x4 := (R9.out.cell (World.block_lt_of_cell? w _ x4)).trans x4
        have HTk := Aside0.mk (fun W => HT.out (rd_T36 l1 (kk : Int)) W)
        obtain ⟨tb, htb⟩ : ∃ tb, tb = touchB cc (rd_T36 l1 (kk : Int)) := ⟨_, rfl⟩
        rw [← htb] at HTk
        have Htb := Aside0.mk htb
        clear htb
        generalize (rd_T36 l1 (kk : Int)).f0 = d0 at x0 HTk
        generalize (rd_T36 l1 (kk : Int)).f1 = d1 at x1 HTk
        generalize (rd_T36 l1 (kk : Int)).f2 = d2 at x2 HTk
        generalize (rd_T36 l1 (kk : Int)).f3 = d3 at x3 HTk
        generalize (rd_T36 l1 (kk : Int)).f4 = d4 at x4 HTk
        cases hki : ((kk : Int) != a2) with
        | false =>
          go_wp2_with ((with_reducible refine gate_dst (N := 11) rfl ?_); refine box_event ?hg (N := 11) ?hd (cs := #[.int .i64 0, .int .i64 0, .int .i64 0, .int .i64 0, .int .i64 0]) (t := 36) ?hr ?_; (case hd => rfl); (case hg => rfl); (case hr => first | (go_simp; done) | (go_simp; rfl)); intro gd hg w12 hbox hb; have Bgd := Aside0.mk hbox; have Hgd := Aside0.mk hb; have Ggd := Aside0.mk hg; have hzgd_0 := (blk_cell hbox 0).trans rfl; have hzgd_1 := (blk_cell hbox 1).trans rfl; have hzgd_2 := (blk_cell hbox 2).trans rfl; have hzgd_3 := (blk_cell hbox 3).trans rfl; have hzgd_4 := (blk_cell hbox 4).trans rfl; clear hb hbox hg; have hf0 := blk_frozen Bgd.out 0; have hf1 := blk_frozen Bgd.out 1; have hf2 := blk_frozen Bgd.out 2; have hf3 := blk_frozen Bgd.out 3; have hf4 := blk_frozen Bgd.out 4; have NRB : Aside0 (gb ≠ gd) := ⟨by have := blk_lt RB.out; have := Ggd.out; omega⟩; have NRL : Aside0 (gL ≠ gd) := ⟨by have := blk_lt RL.out; have := Ggd.out; omega⟩; have NRI : Aside0 (gI ≠ gd) := ⟨by have := blk_lt RI.out; have := Ggd.out; omega⟩; have NRC : Aside0 (gc ≠ gd) := ⟨by have := blk_lt RC.out; have := Ggd.out; omega⟩; have TRB : Aside0 ((((((w12.setCell ⟨gd, 0, none⟩ (.int .i64 d0)).setCell ⟨gd, 1, none⟩ (.int .i64 d1)).setCell ⟨gd, 2, none⟩ (.int .i64 d2)).setCell ⟨gd, 3, none⟩ (.int .i64 d3)).setCell ⟨gd, 4, none⟩ (.int .i64 d4)).heap[gb]? = some (.cells #[.int .i64 a0_0, .slice A0_1 l0_1.length c0_1, .int .i64 a0_2, .int .i64 a0_3, .slice A0_4 l0_4.length c0_4, .slice A0_5 l0_5.length c0_5] 26 (0, 0))) := ⟨blk_far (blk_far (blk_far (blk_far (blk_far (blk_below RB.out Hgd.out) NRB.out _) NRB.out _) NRB.out _) NRB.out _) NRB.out _⟩; have TRL : Aside0 ((((((w12.setCell ⟨gd, 0, none⟩ (.int .i64 d0)).setCell ⟨gd, 1, none⟩ (.int .i64 d1)).setCell ⟨gd, 2, none⟩ (.int .i64 d2)).setCell ⟨gd, 3, none⟩ (.int .i64 d3)).setCell ⟨gd, 4, none⟩ (.int .i64 d4)).heap[gL]? = some (.cells #[.slice (some ad) l1.length c1] 27 (0, 0))) := ⟨blk_far (blk_far (blk_far (blk_far (blk_far (blk_below RL.out Hgd.out) NRL.out _) NRL.out _) NRL.out _) NRL.out _) NRL.out _⟩; have TRI : Aside0 ((((((w12.setCell ⟨gd, 0, none⟩ (.int .i64 d0)).setCell ⟨gd, 1, none⟩ (.int .i64 d1)).setCell ⟨gd, 2, none⟩ (.int .i64 d2)).setCell ⟨gd, 3, none⟩ (.int .i64 d3)).setCell ⟨gd, 4, none⟩ (.int .i64 d4)).heap[gI]? = some (.cells #[.int .i64 a2] 3 (0, 0))) := ⟨blk_far (blk_far (blk_far (blk_far (blk_far (blk_below RI.out Hgd.out) NRI.out _) NRI.out _) NRI.out _) NRI.out _) NRI.out _⟩; have TRC : Aside0 ((((((w12.setCell ⟨gd, 0, none⟩ (.int .i64 d0)).setCell ⟨gd, 1, none⟩ (.int .i64 d1)).setCell ⟨gd, 2, none⟩ (.int .i64 d2)).setCell ⟨gd, 3, none⟩ (.int .i64 d3)).setCell ⟨gd, 4, none⟩ (.int .i64 d4)).heap[gc]? = some (.cells #[.int .i64 C0, .int .i64 C1, .int .i64 C2, .int .i64 C3, .int .i64 C4] 36 (0, 0))) := ⟨blk_far (blk_far (blk_far (blk_far (blk_far (blk_below RC.out Hgd.out) NRC.out _) NRC.out _) NRC.out _) NRC.out _) NRC.out _⟩; have hgd : w.heap.size ≤ gd := (by rw [Ggd.out]; exact R9.out.size); have TD : Aside0 (Below w.heap.size w (((((w12.setCell ⟨gd, 0, none⟩ (.int .i64 d0)).setCell ⟨gd, 1, none⟩ (.int .i64 d1)).setCell ⟨gd, 2, none⟩ (.int .i64 d2)).setCell ⟨gd, 3, none⟩ (.int .i64 d3)).setCell ⟨gd, 4, none⟩ (.int .i64 d4))) := ⟨below_set (below_set (below_set (below_set (below_set (below_step R9.out Hgd.out) hgd) hgd) hgd) hgd) hgd⟩; clear hgd; have qi := (blk_cell TRI.out 0).trans rfl; have qc0 := (blk_cell TRC.out 0).trans rfl; have qc1 := (blk_cell TRC.out 1).trans rfl; have qc2 := (blk_cell TRC.out 2).trans rfl; have qc3 := (blk_cell TRC.out 3).trans rfl; have qc4 := (blk_cell TRC.out 4).trans rfl)
          go_roundg (l1.length - (kk + 1))
          case measure => omega
          case rel =>
            refine ⟨kk + 1, by go_num, ⟨by omega, by omega⟩, TD, TRB, TRL, TRI, TRC, ⟨fun t ht => ?_⟩⟩
            by_cases e : t = kk
            · subst e
              have : (t : Int) = a2 := bne_eq_false_iff_eq.mp hki
              simp [this]
            · exact HA.out t (by omega)
        | true =>
          cases tb with
          | true =>
            have Hr : Aside0 (r = true) := ⟨by
              have hta : touchesAny l1 a2 = true := by
                rw [HTA.out, List.any_eq_true]
                refine ⟨kk, by simpa using hlt, ?_⟩
                rw [← Htb.out]
                have := bne_iff_ne.mp hki
                simp [this]
              exact (Option.some.inj ((if_pos hta).symm.trans H.out)).symm⟩
            go_wp2_with (first | ((with_reducible refine gate_dst (N := 11) rfl ?_); refine box_event ?hg (N := 11) ?hd (cs := #[.int .i64 0, .int .i64 0, .int .i64 0, .int .i64 0, .int .i64 0]) (t := 36) ?hr ?_; (case hd => rfl); (case hg => rfl); (case hr => first | (go_simp; done) | (go_simp; rfl)); intro gd hg w12 hbox hb; have Bgd := Aside0.mk hbox; have Hgd := Aside0.mk hb; have Ggd := Aside0.mk hg; have hzgd_0 := (blk_cell hbox 0).trans rfl; have hzgd_1 := (blk_cell hbox 1).trans rfl; have hzgd_2 := (blk_cell hbox 2).trans rfl; have hzgd_3 := (blk_cell hbox 3).trans rfl; have hzgd_4 := (blk_cell hbox 4).trans rfl; clear hb hbox hg; have hf0 := blk_frozen Bgd.out 0; have hf1 := blk_frozen Bgd.out 1; have hf2 := blk_frozen Bgd.out 2; have hf3 := blk_frozen Bgd.out 3; have hf4 := blk_frozen Bgd.out 4; have NRB : Aside0 (gb ≠ gd) := ⟨by have := blk_lt RB.out; have := Ggd.out; omega⟩; have NRL : Aside0 (gL ≠ gd) := ⟨by have := blk_lt RL.out; have := Ggd.out; omega⟩; have NRI : Aside0 (gI ≠ gd) := ⟨by have := blk_lt RI.out; have := Ggd.out; omega⟩; have NRC : Aside0 (gc ≠ gd) := ⟨by have := blk_lt RC.out; have := Ggd.out; omega⟩; have TRB : Aside0 ((((((w12.setCell ⟨gd, 0, none⟩ (.int .i64 d0)).setCell ⟨gd, 1, none⟩ (.int .i64 d1)).setCell ⟨gd, 2, none⟩ (.int .i64 d2)).setCell ⟨gd, 3, none⟩ (.int .i64 d3)).setCell ⟨gd, 4, none⟩ (.int .i64 d4)).heap[gb]? = some (.cells #[.int .i64 a0_0, .slice A0_1 l0_1.length c0_1, .int .i64 a0_2, .int .i64 a0_3, .slice A0_4 l0_4.length c0_4, .slice A0_5 l0_5.length c0_5] 26 (0, 0))) := ⟨blk_far (blk_far (blk_far (blk_far (blk_far (blk_below RB.out Hgd.out) NRB.out _) NRB.out _) NRB.out _) NRB.out _) NRB.out _⟩; have TRL : Aside0 ((((((w12.setCell ⟨gd, 0, none⟩ (.int .i64 d0)).setCell ⟨gd, 1, none⟩ (.int .i64 d1)).setCell ⟨gd, 2, none⟩ (.int .i64 d2)).setCell ⟨gd, 3, none⟩ (.int .i64 d3)).setCell ⟨gd, 4, none⟩ (.int .i64 d4)).heap[gL]? = some (.cells #[.slice (some ad) l1.length c1] 27 (0, 0))) := ⟨blk_far (blk_far (blk_far (blk_far (blk_far (blk_below RL.out Hgd.out) NRL.out _) NRL.out _) NRL.out _) NRL.out _) NRL.out _⟩; have TRI : Aside0 ((((((w12.setCell ⟨gd, 0, none⟩ (.int .i64 d0)).setCell ⟨gd, 1, none⟩ (.int .i64 d1)).setCell ⟨gd, 2, none⟩ (.int .i64 d2)).setCell ⟨gd, 3, none⟩ (.int .i64 d3)).setCell ⟨gd, 4, none⟩ (.int .i64 d4)).heap[gI]? = some (.cells #[.int .i64 a2] 3 (0, 0))) := ⟨blk_far (blk_far (blk_far (blk_far (blk_far (blk_below RI.out Hgd.out) NRI.out _) NRI.out _) NRI.out _) NRI.out _) NRI.out _⟩; have TRC : Aside0 ((((((w12.setCell ⟨gd, 0, none⟩ (.int .i64 d0)).setCell ⟨gd, 1, none⟩ (.int .i64 d1)).setCell ⟨gd, 2, none⟩ (.int .i64 d2)).setCell ⟨gd, 3, none⟩ (.int .i64 d3)).setCell ⟨gd, 4, none⟩ (.int .i64 d4)).heap[gc]? = some (.cells #[.int .i64 C0, .int .i64 C1, .int .i64 C2, .int .i64 C3, .int .i64 C4] 36 (0, 0))) := ⟨blk_far (blk_far (blk_far (blk_far (blk_far (blk_below RC.out Hgd.out) NRC.out _) NRC.out _) NRC.out _) NRC.out _) NRC.out _⟩; have hgd : w.heap.size ≤ gd := (by rw [Ggd.out]; exact R9.out.size); have TD : Aside0 (Below w.heap.size w (((((w12.setCell ⟨gd, 0, none⟩ (.int .i64 d0)).setCell ⟨gd, 1, none⟩ (.int .i64 d1)).setCell ⟨gd, 2, none⟩ (.int .i64 d2)).setCell ⟨gd, 3, none⟩ (.int .i64 d3)).setCell ⟨gd, 4, none⟩ (.int .i64 d4))) := ⟨below_set (below_set (below_set (below_set (below_set (below_step R9.out Hgd.out) hgd) hgd) hgd) hgd) hgd⟩; clear hgd; have qi := (blk_cell TRI.out 0).trans rfl; have qc0 := (blk_cell TRC.out 0).trans rfl; have qc1 := (blk_cell TRC.out 1).trans rfl; have qc2 := (blk_cell TRC.out 2).trans rfl; have qc3 := (blk_cell TRC.out 3).trans rfl; have qc4 := (blk_cell TRC.out 4).trans rfl) | (go_at_call 72; refine (HTk.out _).mono ?_; rintro e w13 ⟨rfl, hb13⟩; have H13 := Aside0.mk hb13; clear hb13))
            go_ret
            exact ⟨by rw [Hr.out]; rfl, below_step TD.out H13.out⟩
          | false =>
            go_wp2_with (first | ((with_reducible refine gate_dst (N := 11) rfl ?_); refine box_event ?hg (N := 11) ?hd (cs := #[.int .i64 0, .int .i64 0, .int .i64 0, .int .i64 0, .int .i64 0]) (t := 36) ?hr ?_; (case hd => rfl); (case hg => rfl); (case hr => first | (go_simp; done) | (go_simp; rfl)); intro gd hg w12 hbox hb; have Bgd := Aside0.mk hbox; have Hgd := Aside0.mk hb; have Ggd := Aside0.mk hg; have hzgd_0 := (blk_cell hbox 0).trans rfl; have hzgd_1 := (blk_cell hbox 1).trans rfl; have hzgd_2 := (blk_cell hbox 2).trans rfl; have hzgd_3 := (blk_cell hbox 3).trans rfl; have hzgd_4 := (blk_cell hbox 4).trans rfl; clear hb hbox hg; have hf0 := blk_frozen Bgd.out 0; have hf1 := blk_frozen Bgd.out 1; have hf2 := blk_frozen Bgd.out 2; have hf3 := blk_frozen Bgd.out 3; have hf4 := blk_frozen Bgd.out 4; have NRB : Aside0 (gb ≠ gd) := ⟨by have := blk_lt RB.out; have := Ggd.out; omega⟩; have NRL : Aside0 (gL ≠ gd) := ⟨by have := blk_lt RL.out; have := Ggd.out; omega⟩; have NRI : Aside0 (gI ≠ gd) := ⟨by have := blk_lt RI.out; have := Ggd.out; omega⟩; have NRC : Aside0 (gc ≠ gd) := ⟨by have := blk_lt RC.out; have := Ggd.out; omega⟩; have TRB : Aside0 ((((((w12.setCell ⟨gd, 0, none⟩ (.int .i64 d0)).setCell ⟨gd, 1, none⟩ (.int .i64 d1)).setCell ⟨gd, 2, none⟩ (.int .i64 d2)).setCell ⟨gd, 3, none⟩ (.int .i64 d3)).setCell ⟨gd, 4, none⟩ (.int .i64 d4)).heap[gb]? = some (.cells #[.int .i64 a0_0, .slice A0_1 l0_1.length c0_1, .int .i64 a0_2, .int .i64 a0_3, .slice A0_4 l0_4.length c0_4, .slice A0_5 l0_5.length c0_5] 26 (0, 0))) := ⟨blk_far (blk_far (blk_far (blk_far (blk_far (blk_below RB.out Hgd.out) NRB.out _) NRB.out _) NRB.out _) NRB.out _) NRB.out _⟩; have TRL : Aside0 ((((((w12.setCell ⟨gd, 0, none⟩ (.int .i64 d0)).setCell ⟨gd, 1, none⟩ (.int .i64 d1)).setCell ⟨gd, 2, none⟩ (.int .i64 d2)).setCell ⟨gd, 3, none⟩ (.int .i64 d3)).setCell ⟨gd, 4, none⟩ (.int .i64 d4)).heap[gL]? = some (.cells #[.slice (some ad) l1.length c1] 27 (0, 0))) := ⟨blk_far (blk_far (blk_far (blk_far (blk_far (blk_below RL.out Hgd.out) NRL.out _) NRL.out _) NRL.out _) NRL.out _) NRL.out _⟩; have TRI : Aside0 ((((((w12.setCell ⟨gd, 0, none⟩ (.int .i64 d0)).setCell ⟨gd, 1, none⟩ (.int .i64 d1)).setCell ⟨gd, 2, none⟩ (.int .i64 d2)).setCell ⟨gd, 3, none⟩ (.int .i64 d3)).setCell ⟨gd, 4, none⟩ (.int .i64 d4)).heap[gI]? = some (.cells #[.int .i64 a2] 3 (0, 0))) := ⟨blk_far (blk_far (blk_far (blk_far (blk_far (blk_below RI.out Hgd.out) NRI.out _) NRI.out _) NRI.out _) NRI.out _) NRI.out _⟩; have TRC : Aside0 ((((((w12.setCell ⟨gd, 0, none⟩ (.int .i64 d0)).setCell ⟨gd, 1, none⟩ (.int .i64 d1)).setCell ⟨gd, 2, none⟩ (.int .i64 d2)).setCell ⟨gd, 3, none⟩ (.int .i64 d3)).setCell ⟨gd, 4, none⟩ (.int .i64 d4)).heap[gc]? = some (.cells #[.int .i64 C0, .int .i64 C1, .int .i64 C2, .int .i64 C3, .int .i64 C4] 36 (0, 0))) := ⟨blk_far (blk_far (blk_far (blk_far (blk_far (blk_below RC.out Hgd.out) NRC.out _) NRC.out _) NRC.out _) NRC.out _) NRC.out _⟩; have hgd : w.heap.size ≤ gd := (by rw [Ggd.out]; exact R9.out.size); have TD : Aside0 (Below w.heap.size w (((((w12.setCell ⟨gd, 0, none⟩ (.int .i64 d0)).setCell ⟨gd, 1, none⟩ (.int .i64 d1)).setCell ⟨gd, 2, none⟩ (.int .i64 d2)).setCell ⟨gd, 3, none⟩ (.int .i64 d3)).setCell ⟨gd, 4, none⟩ (.int .i64 d4))) := ⟨below_set (below_set (below_set (below_set (below_set (below_step R9.out Hgd.out) hgd) hgd) hgd) hgd) hgd⟩; clear hgd; have qi := (blk_cell TRI.out 0).trans rfl; have qc0 := (blk_cell TRC.out 0).trans rfl; have qc1 := (blk_cell TRC.out 1).trans rfl; have qc2 := (blk_cell TRC.out 2).trans rfl; have qc3 := (blk_cell TRC.out 3).trans rfl; have qc4 := (blk_cell TRC.out 4).trans rfl) | (go_at_call 72; refine (HTk.out _).mono ?_; rintro e w13 ⟨rfl, hb13⟩; have H13 := Aside0.mk hb13; clear hb13))
            go_roundg (l1.length - (kk + 1))
            case measure => omega
            case rel =>
              refine ⟨kk + 1, by go_num, ⟨by omega, by omega⟩, ⟨below_step TD.out H13.out⟩, ⟨blk_below TRB.out H13.out⟩, ⟨blk_below TRL.out H13.out⟩, ⟨blk_below TRI.out H13.out⟩, ⟨blk_below TRC.out H13.out⟩, ⟨fun t ht => ?_⟩⟩
              by_cases e : t = kk
              · subst e
                rw [← Htb.out]
                simp
              · exact HA.out t (by omega)
      · have hltz : ¬ (kk : Int) < (l1.length : Int) := by omega
        have hta : touchesAny l1 a2 = false := by
          rw [HTA.out, List.any_eq_false]
          intro t ht
          have := HA.out t (by have := List.mem_range.1 ht; omega)
          rw [this]
          simp
        replace H := Aside0.mk ((if_neg (by rw [hta]; simp)).symm.trans H.out)
        clear hta HA HTA HT HR1
        obtain ⟨h1, hh1, h'⟩ := Option.bind_eq_some_iff.mp H.out
        clear H
        have H := Aside0.mk h'
        clear h'
        have HA1 := Aside0.mk (HH.out _ _ _ hh1)
        clear hh1
        have y2 := (blk_cell RC.out 2).trans rfl
        have y3 := (blk_cell RC.out 3).trans rfl
        go_wp2_with fail
        refine (HA1.out _ _ _ _ R9.out RB.out RL.out RI.out).mono ?_
        rintro e w14 ⟨rfl, hb14⟩
        replace R9 := Aside0.mk (below_step R9.out hb14)
        replace RB := Aside0.mk (blk_below RB.out hb14)
        replace RL := Aside0.mk (blk_below RL.out hb14)
        replace RI := Aside0.mk (blk_below RI.out hb14)
        replace RC := Aside0.mk (blk_below RC.out hb14)
        clear hb14 y2 y3
        cases h1 with
        | false =>
          have Hr : Aside0 (r = true) := ⟨(Option.some.inj ((if_neg (by simp)).symm.trans H.out)).symm⟩
          go_wp2
          go_ret
          exact ⟨by rw [Hr.out]; rfl, R9.out⟩
        | true =>
          obtain ⟨h2, hh2, h'⟩ := Option.bind_eq_some_iff.mp ((if_pos rfl).symm.trans H.out)
          have HA2 := Aside0.mk (HH.out _ _ _ hh2)
          have Hr := Aside0.mk (Option.some.inj h')
          clear hh2 h' H
          have y2 := (blk_cell RC.out 2).trans rfl
          go_wp2_with fail
          refine (HA2.out _ _ _ _ R9.out RB.out RL.out RI.out).mono ?_
          rintro e w15 ⟨rfl, hb15⟩
          have H15 := Aside0.mk (below_step R9.out hb15)
          clear hb15
          go_wp2
          go_ret
          exact ⟨by rw [← Hr.out]; rfl, H15.out⟩
  · rw [if_neg hin] at h
    cases h
end Go.Proofs.Ytibgcekekmphoaa.P34
