/- network.checkLink: what it answers, for any network whose table of powers is square: the fault of a link. -/
import Derived.Test.YtibgcekekmphoaaP340
import Derived.Test.YtibgcekekmphoaaP34E
import Derived.Test.YtibgcekekmphoaaGpow
import Derived.Laws.EntriesVeiled
namespace Go.Proofs.Ytibgcekekmphoaa.P34
open Go.RowKit Go.Proofs.YtibgcekekmphoaaW.PrintWords Go.Proofs.YtibgcekekmphoaaW.PrintLast Go.Proofs.YtibgcekekmphoaaW.PrintMore
attribute [local go_sem] max2_int min2_int max_two min_two max_three min_three max_four min_four
set_option linter.unusedVariables false
set_option linter.unusedSimpArgs false

theorem call69 (B : Nat) (x m : Int) (W : World) (hB : W.cell? ⟨B, 0, none⟩ = some (.int .i64 m)) :
    Calls Try.prog 69 #[.int .i64 x, .pointer (some ⟨B, 0, none⟩)] W fun e w' => e = .returned (.bool (decide (0 ≤ x) && decide (x < m))) ∧ W = w' := by
  by_cases h : 0 ≤ x
  · have h' : decide (0 ≤ x) = true := decide_eq_true h
    rw [h']
    clear h
    go_enter Try.func69, Try.ntmps69
    go_wp2
    go_ret
    exact ⟨by simp, rfl⟩
  · have h' : decide (0 ≤ x) = false := decide_eq_false h
    rw [h']
    clear h
    go_enter Try.func69, Try.ntmps69
    go_wp2
    go_ret
    exact ⟨by simp, rfl⟩

/-- The value of a link's own faults: the ends, and the loss. -/
def linkBad (m F T L : Int) : Bool := !(decide (0 ≤ F) && decide (F < m)) || !(decide (0 ≤ T) && decide (T < m)) || F == T || decide (L < 0) || decide (7 < L)
def linkLess (a b : S44) : Bool := decide (a.f0 < b.f0) || (a.f0 == b.f0 && decide (a.f1 < b.f1))
def network_checkLink.f (a0_0 : Int) (l0_1 : List (List Int)) (a0_2 : Int) (a0_3 : Int) (l0_4 : List (S44)) (l0_5 : List Int) (a1 : Int) : Option Int :=
  if 0 ≤ a1 ∧ a1 < (l0_4.length : Int) ∧ l0_5.length = l0_4.length ∧ (l0_1.length : Int) = a0_0 ∧ badLen a0_0 l0_1 = false then
    some (if linkBad a0_0 (rd_T44 l0_4 a1).f0 (rd_T44 l0_4 a1).f1 (rd_T44 l0_4 a1).f2 = true then 2
      else if 0 < a1 ∧ linkLess (rd_T44 l0_4 (a1 - 1)) (rd_T44 l0_4 a1) = false then 5
      else if rd l0_5 a1 < 0 ∨ rd (rd_L1 l0_1 (rd_T44 l0_4 a1).f0) (rd_T44 l0_4 a1).f1 < rd l0_5 a1 then 2 else 0)
  else none

set_option maxRecDepth 100000 in
set_option maxHeartbeats 2000000 in
theorem link_head (a0_0 : Int) (A0_1 : Option Addr) (c0_1 : Nat) (l0_1 : List (List Int)) (a0_2 : Int) (a0_3 : Int) (A0_4 : Option Addr) (c0_4 : Nat) (l0_4 : List (S44)) (A0_5 : Option Addr) (c0_5 : Nat) (l0_5 : List Int) (a1 : Int) (r : Int) (w : World) (hr0_1 : Kd.C (Kd.slice 3 (Kd.int .i64)) w A0_1 l0_1.length l0_1) (hc0_1 : l0_1.length ≤ c0_1) (hr0_4 : Kd.C k44 w A0_4 l0_4.length l0_4) (hc0_4 : l0_4.length ≤ c0_4) (hr0_5 : Kd.C (Kd.int .i64) w A0_5 l0_5.length l0_5) (hc0_5 : l0_5.length ≤ c0_5) (h0 : 0 ≤ a1) (h1 : a1 < (l0_4.length : Int))
    (hbad : linkBad a0_0 (rd_T44 l0_4 a1).f0 (rd_T44 l0_4 a1).f1 (rd_T44 l0_4 a1).f2 = true) :
    Calls Try.prog 44 #[.agg #[.int .i64 a0_0, .slice A0_1 l0_1.length c0_1, .int .i64 a0_2, .int .i64 a0_3, .slice A0_4 l0_4.length c0_4, .slice A0_5 l0_5.length c0_5], .int .i64 a1] w fun e w' => e = .returned (.int .i64 2) ∧ Below w.heap.size w w' := by
  have hu26 := Try.underlying26
  have hu44 := Try.underlying44
  obtain ⟨ad, rfl, x0, x1, x2⟩ := at_T44 hr0_4 a1 h0 h1
  have hn := hr0_4.2.1
  generalize (rd_T44 l0_4 a1).f0 = F at x0 hbad
  generalize (rd_T44 l0_4 a1).f1 = T at x1 hbad
  generalize (rd_T44 l0_4 a1).f2 = L at x2 hbad
  have X0 := Aside0.mk x0
  have X1 := Aside0.mk x1
  have X2 := Aside0.mk x2
  clear x0 x1 x2
  clear hr0_1 hr0_4 hr0_5 hc0_1 hc0_4 hc0_5
  have HF := Aside0.mk (fun B W => call69 B F a0_0 W)
  have HT := Aside0.mk (fun B W => call69 B T a0_0 W)
  have HBad := Aside0.mk hbad
  unfold linkBad at HBad
  clear hbad
  generalize (decide (0 ≤ F) && decide (F < a0_0)) = n1 at HF HBad
  generalize (decide (0 ≤ T) && decide (T < a0_0)) = n2 at HT HBad
  go_enter Try.func44, Try.ntmps44
  go_wp2_with (first | ((with_reducible refine gate_dst (N := 2) rfl ?_); refine box_event ?hg (N := 2) ?hd (cs := #[.int .i64 a0_0, .slice A0_1 l0_1.length c0_1, .int .i64 a0_2, .int .i64 a0_3, .slice (some ad) l0_4.length c0_4, .slice A0_5 l0_5.length c0_5]) (t := 26) ?hr ?_; (case hd => rfl); (case hg => rfl); (case hr => first | (go_simp; done) | (go_simp; rfl)); intro gb hg w4 hbox hb; have Bgb := Aside0.mk hbox; have Hgb := Aside0.mk hb; have Ggb := Aside0.mk hg; have hzgb_0 := (blk_cell hbox 0).trans rfl; have hzgb_1 := (blk_cell hbox 1).trans rfl; have hzgb_2 := (blk_cell hbox 2).trans rfl; have hzgb_3 := (blk_cell hbox 3).trans rfl; have hzgb_4 := (blk_cell hbox 4).trans rfl; have hzgb_5 := (blk_cell hbox 5).trans rfl; clear hb hbox hg; have y0 := (Hgb.out.cell (World.block_lt_of_cell? w _ X0.out)).trans X0.out; have y1 := (Hgb.out.cell (World.block_lt_of_cell? w _ X1.out)).trans X1.out; have y2 := (Hgb.out.cell (World.block_lt_of_cell? w _ X2.out)).trans X2.out) | ((with_reducible refine gate_dst (N := 5) rfl ?_); refine box_event ?hg (N := 5) ?hd (cs := #[.int .i64 0, .int .i64 0, .int .i64 0]) (t := 44) ?hr ?_; (case hd => rfl); (case hg => rfl); (case hr => first | (go_simp; done) | (go_simp; rfl)); intro gl hg w5 hbox hb; have Bgl := Aside0.mk hbox; have Hgl := Aside0.mk hb; have Ggl := Aside0.mk hg; have hzgl_0 := (blk_cell hbox 0).trans rfl; have hzgl_1 := (blk_cell hbox 1).trans rfl; have hzgl_2 := (blk_cell hbox 2).trans rfl; clear hb hbox hg; have hf0 := blk_frozen Bgl.out 0; have hf1 := blk_frozen Bgl.out 1; have hf2 := blk_frozen Bgl.out 2; have Kgl : Aside0 (gb ≠ gl) := ⟨by have := blk_lt Bgb.out; have := Ggl.out; omega⟩))
  have C1 : Aside0 ((((w5.setCell ⟨gl, 0, none⟩ (.int .i64 F)).setCell ⟨gl, 1, none⟩ (.int .i64 T)).setCell ⟨gl, 2, none⟩ (.int .i64 L)).heap[gl]? = some (.cells #[.int .i64 F, .int .i64 T, .int .i64 L] 44 (0, 0))) := ⟨blk_set (blk_set (blk_set Bgl.out 0 _) 1 _) 2 _⟩
  have hgl : w.heap.size ≤ gl := by rw [Ggl.out]; exact Hgb.out.size
  have C2 : Aside0 (Below w.heap.size w (((w5.setCell ⟨gl, 0, none⟩ (.int .i64 F)).setCell ⟨gl, 1, none⟩ (.int .i64 T)).setCell ⟨gl, 2, none⟩ (.int .i64 L))) := ⟨below_set (below_set (below_set (below_step Hgb.out Hgl.out) hgl) hgl) hgl⟩
  clear hgl
  have C3 : Aside0 ((((w5.setCell ⟨gl, 0, none⟩ (.int .i64 F)).setCell ⟨gl, 1, none⟩ (.int .i64 T)).setCell ⟨gl, 2, none⟩ (.int .i64 L)).heap[gb]? = some (.cells #[.int .i64 a0_0, .slice A0_1 l0_1.length c0_1, .int .i64 a0_2, .int .i64 a0_3, .slice (some ad) l0_4.length c0_4, .slice A0_5 l0_5.length c0_5] 26 (0, 0))) := ⟨blk_far (blk_far (blk_far (blk_below Bgb.out Hgl.out) Kgl.out _) Kgl.out _) Kgl.out _⟩
  generalize (((w5.setCell ⟨gl, 0, none⟩ (.int .i64 F)).setCell ⟨gl, 1, none⟩ (.int .i64 T)).setCell ⟨gl, 2, none⟩ (.int .i64 L)) = w6 at C1 C2 C3 ⊢
  clear hzgb_0 hzgb_1 hzgb_2 hzgb_3 hzgb_4 hzgb_5 hzgl_0 hzgl_1 hzgl_2 y0 y1 y2 hf0 hf1 hf2
  have u0 := (blk_cell C3.out 0).trans rfl
  have v0 := (blk_cell C1.out 0).trans rfl
  have v1 := (blk_cell C1.out 1).trans rfl
  have v2 := (blk_cell C1.out 2).trans rfl
  refine (HF.out gb _ u0).mono ?_
  rintro e w7 ⟨rfl, rfl⟩
  cases n1 with
  | false =>
    go_wp2
    go_ret
    exact ⟨rfl, C2.out⟩
  | true =>
    go_wp2_with fail
    refine (HT.out gb _ u0).mono ?_
    rintro e w7 ⟨rfl, rfl⟩
    cases n2 with
    | false =>
      go_wp2
      go_ret
      exact ⟨rfl, C2.out⟩
    | true =>
      cases hft : (F == T) with
      | true =>
        go_wp2
        go_ret
        exact ⟨rfl, C2.out⟩
      | false =>
        cases hl0 : (decide (L < 0)) with
        | true =>
          go_wp2
          go_ret
          exact ⟨rfl, C2.out⟩
        | false =>
          have hl7 : (decide (7 < L)) = true := by have := HBad.out; rw [hft, hl0] at this; simpa using this
          go_wp2
          go_ret
          exact ⟨rfl, C2.out⟩
end Go.Proofs.Ytibgcekekmphoaa.P34
