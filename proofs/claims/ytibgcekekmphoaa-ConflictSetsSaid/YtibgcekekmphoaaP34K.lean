-- Written by a program of this session (wip/tools) over the kit's print; Lean checks it.
import Derived.Test.YtibgcekekmphoaaP340
import Derived.Test.YtibgcekekmphoaaP34A
namespace Go.Proofs.Ytibgcekekmphoaa.P34
open Go.RowKit Go.Proofs.YtibgcekekmphoaaW.PrintWords Go.Proofs.YtibgcekekmphoaaW.PrintLast Go.Proofs.YtibgcekekmphoaaW.PrintMore
attribute [local go_sem] max2_int min2_int max_two min_two max_three min_three max_four min_four   -- for this text's walks alone
set_option linter.unusedVariables false
set_option linter.unusedSimpArgs false

/-! ### hopmeshref31_link: function 63 -/
mutual
def hopmeshref31_link.j0 : Nat → Int → Bool → Int → List (List Int) → Int → Int → List (S44) → List Int → Int → Int → Int → Option (Int)
 | 0, _, _, _, _, _, _, _, _, _, _, _ => none
 | k + 1, x1, x39, x109000, x109001, x109002, x109003, x109004, x109005, x111000, x111001, x111002 => if x39 = true then (some 2) else (if x1 > 0 then (if 0 ≤ (wrap64 (x1 - 1)) then (if (wrap64 (x1 - 1)) < (x109004.length : Int) then (if ((rd_T44 x109004 (wrap64 (x1 - 1))).f0) > x111000 then (hopmeshref31_link.j1 k x1 true x109000 x109001 x109002 x109003 x109004 x109005 x111000 x111001 x111002) else (if ((rd_T44 x109004 (wrap64 (x1 - 1))).f0) = x111000 then (hopmeshref31_link.j1 k x1 (decide (((rd_T44 x109004 (wrap64 (x1 - 1))).f1) ≥ x111001)) x109000 x109001 x109002 x109003 x109004 x109005 x111000 x111001 x111002) else (hopmeshref31_link.j1 k x1 false x109000 x109001 x109002 x109003 x109004 x109005 x111000 x111001 x111002))) else (none)) else (none)) else (hopmeshref31_link.j1 k x1 false x109000 x109001 x109002 x109003 x109004 x109005 x111000 x111001 x111002))
def hopmeshref31_link.j1 : Nat → Int → Bool → Int → List (List Int) → Int → Int → List (S44) → List Int → Int → Int → Int → Option (Int)
 | 0, _, _, _, _, _, _, _, _, _, _, _ => none
 | k + 1, x1, x77, x109000, x109001, x109002, x109003, x109004, x109005, x111000, x111001, x111002 => if x77 = true then (some 5) else (if 0 ≤ x1 then (if x1 < (x109005.length : Int) then (if 0 ≤ x111000 then (if x111000 < (x109001.length : Int) then (if 0 ≤ x111001 then (if x111001 < ((rd_L1 x109001 x111000).length : Int) then ((hopmeshref31_in.f (rd x109005 x1) 0 (rd (rd_L1 x109001 x111000) x111001)).bind fun t120 => (if t120 = true then (some 0) else (some 2))) else (none)) else (none)) else (none)) else (none)) else (none)) else (none))
end
def hopmeshref31_link.f (k : Nat) (a0_0 : Int) (l0_1 : List (List Int)) (a0_2 : Int) (a0_3 : Int) (l0_4 : List (S44)) (l0_5 : List Int) (a1 : Int) : Option (Int) := if 0 ≤ a1 then (if a1 < (l0_4.length : Int) then ((hopmeshref31_in.f ((rd_T44 l0_4 a1).f0) 0 (wrap64 (a0_0 - 1))).bind fun t111 => (if t111 = true then ((hopmeshref31_in.f ((rd_T44 l0_4 a1).f1) 0 (wrap64 (a0_0 - 1))).bind fun t112 => (if t112 = true then (if ((rd_T44 l0_4 a1).f0) = ((rd_T44 l0_4 a1).f1) then (hopmeshref31_link.j0 k a1 true a0_0 l0_1 a0_2 a0_3 l0_4 l0_5 ((rd_T44 l0_4 a1).f0) ((rd_T44 l0_4 a1).f1) ((rd_T44 l0_4 a1).f2)) else ((hopmeshref31_in.f ((rd_T44 l0_4 a1).f2) 0 7).bind fun t113 => (hopmeshref31_link.j0 k a1 (!t113) a0_0 l0_1 a0_2 a0_3 l0_4 l0_5 ((rd_T44 l0_4 a1).f0) ((rd_T44 l0_4 a1).f1) ((rd_T44 l0_4 a1).f2)))) else (hopmeshref31_link.j0 k a1 true a0_0 l0_1 a0_2 a0_3 l0_4 l0_5 ((rd_T44 l0_4 a1).f0) ((rd_T44 l0_4 a1).f1) ((rd_T44 l0_4 a1).f2)))) else (hopmeshref31_link.j0 k a1 true a0_0 l0_1 a0_2 a0_3 l0_4 l0_5 ((rd_T44 l0_4 a1).f0) ((rd_T44 l0_4 a1).f1) ((rd_T44 l0_4 a1).f2)))) else (none)) else (none)
theorem hopmeshref31_link.mono_l : ∀ k, (∀ y0 y1 y2 y3 y4 y5 y6 y7 y8 y9 y10, LeO (hopmeshref31_link.j0 k y0 y1 y2 y3 y4 y5 y6 y7 y8 y9 y10) (hopmeshref31_link.j0 (k + 1) y0 y1 y2 y3 y4 y5 y6 y7 y8 y9 y10)) ∧ (∀ y0 y1 y2 y3 y4 y5 y6 y7 y8 y9 y10, LeO (hopmeshref31_link.j1 k y0 y1 y2 y3 y4 y5 y6 y7 y8 y9 y10) (hopmeshref31_link.j1 (k + 1) y0 y1 y2 y3 y4 y5 y6 y7 y8 y9 y10))
 | 0 => ⟨fun _ _ _ _ _ _ _ _ _ _ _ r h => by simp [hopmeshref31_link.j0] at h, fun _ _ _ _ _ _ _ _ _ _ _ r h => by simp [hopmeshref31_link.j1] at h⟩
 | k + 1 => by
  obtain ⟨ih0, ih1⟩ := hopmeshref31_link.mono_l k
  refine ⟨?_, ?_⟩
  ·
   intro y0 y1 y2 y3 y4 y5 y6 y7 y8 y9 y10
   unfold hopmeshref31_link.j0
   repeat' first
   | (with_reducible exact ih0 _ _ _ _ _ _ _ _ _ _ _)
   | (with_reducible exact ih1 _ _ _ _ _ _ _ _ _ _ _)
   | (with_reducible exact LeO.refl _)
   | (with_reducible exact LeO.none _)
   | (with_reducible refine LeO.ite ?_ ?_)
   | (with_reducible refine LeO.bind ?_ (fun _ => ?_))
   | exact ih0 _ _ _ _ _ _ _ _ _ _ _
   | exact ih1 _ _ _ _ _ _ _ _ _ _ _
   | exact LeO.none _
   | refine LeO.ite ?_ ?_
   | refine LeO.bind ?_ (fun _ => ?_)
  ·
   intro y0 y1 y2 y3 y4 y5 y6 y7 y8 y9 y10
   unfold hopmeshref31_link.j1
   repeat' first
   | (with_reducible exact ih0 _ _ _ _ _ _ _ _ _ _ _)
   | (with_reducible exact ih1 _ _ _ _ _ _ _ _ _ _ _)
   | (with_reducible exact LeO.refl _)
   | (with_reducible exact LeO.none _)
   | (with_reducible refine LeO.ite ?_ ?_)
   | (with_reducible refine LeO.bind ?_ (fun _ => ?_))
   | exact ih0 _ _ _ _ _ _ _ _ _ _ _
   | exact ih1 _ _ _ _ _ _ _ _ _ _ _
   | exact LeO.none _
   | refine LeO.ite ?_ ?_
   | refine LeO.bind ?_ (fun _ => ?_)
theorem hopmeshref31_link.mono : ∀ a0 a1 a2 a3 a4 a5 a6 k, LeO (hopmeshref31_link.f k a0 a1 a2 a3 a4 a5 a6) (hopmeshref31_link.f (k + 1) a0 a1 a2 a3 a4 a5 a6) := by
 intro a0 a1 a2 a3 a4 a5 a6 k
 obtain ⟨ih0, ih1⟩ := hopmeshref31_link.mono_l k
 unfold hopmeshref31_link.f
 repeat' first
   | (with_reducible exact ih0 _ _ _ _ _ _ _ _ _ _ _)
   | (with_reducible exact ih1 _ _ _ _ _ _ _ _ _ _ _)
   | (with_reducible exact LeO.refl _)
   | (with_reducible exact LeO.none _)
   | (with_reducible refine LeO.ite ?_ ?_)
   | (with_reducible refine LeO.bind ?_ (fun _ => ?_))
   | exact ih0 _ _ _ _ _ _ _ _ _ _ _
   | exact ih1 _ _ _ _ _ _ _ _ _ _ _
   | exact LeO.none _
   | refine LeO.ite ?_ ?_
   | refine LeO.bind ?_ (fun _ => ?_)
set_option maxHeartbeats 8000000 in
set_option maxRecDepth 100000 in
theorem hopmeshref31_link.calls (k : Nat) (a0_0 : Int) (A0_1 : Option Addr) (c0_1 : Nat) (l0_1 : List (List Int)) (a0_2 : Int) (a0_3 : Int) (A0_4 : Option Addr) (c0_4 : Nat) (l0_4 : List (S44)) (A0_5 : Option Addr) (c0_5 : Nat) (l0_5 : List Int) (a1 : Int) (r : Int) (w : World) (hr0_1 : Kd.C (Kd.slice 3 (Kd.int .i64)) w A0_1 l0_1.length l0_1) (hc0_1 : l0_1.length ≤ c0_1) (hr0_4 : Kd.C k44 w A0_4 l0_4.length l0_4) (hc0_4 : l0_4.length ≤ c0_4) (hr0_5 : Kd.C (Kd.int .i64) w A0_5 l0_5.length l0_5) (hc0_5 : l0_5.length ≤ c0_5) (h : hopmeshref31_link.f k a0_0 l0_1 a0_2 a0_3 l0_4 l0_5 a1 = some r) :
  Calls Try.prog 63 #[.agg #[.int .i64 a0_0, .slice A0_1 l0_1.length c0_1, .int .i64 a0_2, .int .i64 a0_3, .slice A0_4 l0_4.length c0_4, .slice A0_5 l0_5.length c0_5], .int .i64 a1] w fun e w' => e = .returned (.int .i64 r) ∧ Below w.heap.size w w' := by
 have hu26 := Try.underlying26
 have hu44 := Try.underlying44
 have HR0_1 := Aside0.mk hr0_1
 have HC0_1 := Aside0.mk hc0_1
 clear hr0_1 hc0_1
 have HR0_4 := Aside0.mk hr0_4
 have HC0_4 := Aside0.mk hc0_4
 clear hr0_4 hc0_4
 have HR0_5 := Aside0.mk hr0_5
 have HC0_5 := Aside0.mk hc0_5
 clear hr0_5 hc0_5
 have HB := Aside0.mk (Below.refl w.heap.size w)
 have H : (if 0 ≤ a1 then (if a1 < (l0_4.length : Int) then ((hopmeshref31_in.f ((rd_T44 l0_4 a1).f0) 0 (wrap64 (a0_0 - 1))).bind fun t111 => (if t111 = true then ((hopmeshref31_in.f ((rd_T44 l0_4 a1).f1) 0 (wrap64 (a0_0 - 1))).bind fun t112 => (if t112 = true then (if ((rd_T44 l0_4 a1).f0) = ((rd_T44 l0_4 a1).f1) then (hopmeshref31_link.j0 k a1 true a0_0 l0_1 a0_2 a0_3 l0_4 l0_5 ((rd_T44 l0_4 a1).f0) ((rd_T44 l0_4 a1).f1) ((rd_T44 l0_4 a1).f2)) else ((hopmeshref31_in.f ((rd_T44 l0_4 a1).f2) 0 7).bind fun t113 => (hopmeshref31_link.j0 k a1 (!t113) a0_0 l0_1 a0_2 a0_3 l0_4 l0_5 ((rd_T44 l0_4 a1).f0) ((rd_T44 l0_4 a1).f1) ((rd_T44 l0_4 a1).f2)))) else (hopmeshref31_link.j0 k a1 true a0_0 l0_1 a0_2 a0_3 l0_4 l0_5 ((rd_T44 l0_4 a1).f0) ((rd_T44 l0_4 a1).f1) ((rd_T44 l0_4 a1).f2)))) else (hopmeshref31_link.j0 k a1 true a0_0 l0_1 a0_2 a0_3 l0_4 l0_5 ((rd_T44 l0_4 a1).f0) ((rd_T44 l0_4 a1).f1) ((rd_T44 l0_4 a1).f2)))) else (none)) else (none)) = some r := h
 clear h
 by_cases c3 : 0 ≤ a1
 ·
  rw [if_pos c3] at H
  have c3b0 : decide (0 ≤ a1) = true := decide_eq_true c3
  clear c3
  by_cases c4 : a1 < (l0_4.length : Int)
  ·
   rw [if_pos c4] at H
   have c4b0 : decide (a1 < (l0_4.length : Int)) = true := decide_eq_true c4
   clear c4
   have HC5 := Aside0.mk H
   clear H
   go_enter Try.func63, Try.ntmps63
   go_upto_region 2 with (first | ((with_reducible refine gate_dst (N := 2) rfl ?_); refine bx_ 2 #[.int .i64 a0_0, .slice A0_1 l0_1.length c0_1, .int .i64 a0_2, .int .i64 a0_3, .slice A0_4 l0_4.length c0_4, .slice A0_5 l0_5.length c0_5] 26 ?_; intro gb108 hg w6 hbox hb; have n0_ := Aside0.mk (below_step hb_ hb); have n1_ := Aside0.mk (hbox); have n2_ := Aside0.mk ((by rw [hg]; exact (below_size hb_) : w.heap.size ≤ gb108)); have n3_ := Aside0.mk ((by rw [hg]; exact (below_size hb_) : w.heap.size ≤ gb108)); clear HB; have HB := n0_; have BK108 := n1_; have GW108 := n2_; have GE108 := n3_; clear n0_ n1_ n2_ n3_; clear hb hbox hg; have hcz7_0 := bc0 BK108; have hcz7_1 := bc1 BK108; have hcz7_2 := bc2 BK108; have hcz7_3 := bc3 BK108; have hcz7_4 := bc4 BK108; have hcz7_5 := bc5 BK108; have hfz7_0 := blk_frozen BK108.out 0; have hfz7_1 := blk_frozen BK108.out 1; have hfz7_2 := blk_frozen BK108.out 2; have hfz7_3 := blk_frozen BK108.out 3; have hfz7_4 := blk_frozen BK108.out 4; have hfz7_5 := blk_frozen BK108.out 5; have p109 : 0 ≤ (a1 : Int) := of_decide_eq_true (by assumption); have q109 : a1 < (l0_4.length : Int) := of_decide_eq_true (by assumption); obtain ⟨ad109, e109, hx109_0, hx109_1, hx109_2⟩ := at_T44 HR0_4.out a1 p109 q109; cases e109; replace hx109_0 := (HB.out.cell (World.block_lt_of_cell? w _ hx109_0)).trans hx109_0; replace hx109_1 := (HB.out.cell (World.block_lt_of_cell? w _ hx109_1)).trans hx109_1; replace hx109_2 := (HB.out.cell (World.block_lt_of_cell? w _ hx109_2)).trans hx109_2; replace p109 := eq_true p109; replace q109 := eq_true q109) | ((with_reducible refine gate_dst (N := 5) rfl ?_); refine bx_ 5 #[.int .i64 0, .int .i64 0, .int .i64 0] 44 ?_; intro gb110 hg w8 hbox hb; have n0_ := bk_ BK108 hb; have n1_ := Aside0.mk (below_step hb_ hb); have n2_ := Aside0.mk (hbox); have n3_ := Aside0.mk ((by rw [hg]; exact (below_size hb_) : w.heap.size ≤ gb110)); have n4_ := Aside0.mk ((by rw [hg]; exact (below_size hb_) : w.heap.size ≤ gb110)); have n5_ := Aside0.mk ((by rw [hg]; exact Nat.ne_of_lt (blk_lt (bj_ BK108)) : gb108 ≠ gb110)); have n6_ := Aside0.mk ((by rw [hg]; exact Nat.ne_of_gt (blk_lt (bj_ BK108)) : gb110 ≠ gb108)); clear BK108; clear HB; have BK108 := n0_; have HB := n1_; have BK110 := n2_; have GW110 := n3_; have GE110 := n4_; have NB108_110 := n5_; have NB110_108 := n6_; clear n0_ n1_ n2_ n3_ n4_ n5_ n6_; clear hb hbox hg; have hnb9 := NB110_108.out; have hnc9 := NB108_110.out; have hcz10_0 := bc0 BK110; have hcz10_1 := bc1 BK110; have hcz10_2 := bc2 BK110; have hfz10_0 := blk_frozen BK110.out 0; have hfz10_1 := blk_frozen BK110.out 1; have hfz10_2 := blk_frozen BK110.out 2))
   repeat (go_quiet (first | ((with_reducible refine gate_dst (N := 2) rfl ?_); refine bx_ 2 #[.int .i64 a0_0, .slice A0_1 l0_1.length c0_1, .int .i64 a0_2, .int .i64 a0_3, .slice A0_4 l0_4.length c0_4, .slice A0_5 l0_5.length c0_5] 26 ?_; intro gb108 hg w6 hbox hb; have n0_ := Aside0.mk (below_step hb_ hb); have n1_ := Aside0.mk (hbox); have n2_ := Aside0.mk ((by rw [hg]; exact (below_size hb_) : w.heap.size ≤ gb108)); have n3_ := Aside0.mk ((by rw [hg]; exact (below_size hb_) : w.heap.size ≤ gb108)); clear HB; have HB := n0_; have BK108 := n1_; have GW108 := n2_; have GE108 := n3_; clear n0_ n1_ n2_ n3_; clear hb hbox hg; have hcz7_0 := bc0 BK108; have hcz7_1 := bc1 BK108; have hcz7_2 := bc2 BK108; have hcz7_3 := bc3 BK108; have hcz7_4 := bc4 BK108; have hcz7_5 := bc5 BK108; have hfz7_0 := blk_frozen BK108.out 0; have hfz7_1 := blk_frozen BK108.out 1; have hfz7_2 := blk_frozen BK108.out 2; have hfz7_3 := blk_frozen BK108.out 3; have hfz7_4 := blk_frozen BK108.out 4; have hfz7_5 := blk_frozen BK108.out 5; have p109 : 0 ≤ (a1 : Int) := of_decide_eq_true (by assumption); have q109 : a1 < (l0_4.length : Int) := of_decide_eq_true (by assumption); obtain ⟨ad109, e109, hx109_0, hx109_1, hx109_2⟩ := at_T44 HR0_4.out a1 p109 q109; cases e109; replace hx109_0 := (HB.out.cell (World.block_lt_of_cell? w _ hx109_0)).trans hx109_0; replace hx109_1 := (HB.out.cell (World.block_lt_of_cell? w _ hx109_1)).trans hx109_1; replace hx109_2 := (HB.out.cell (World.block_lt_of_cell? w _ hx109_2)).trans hx109_2; replace p109 := eq_true p109; replace q109 := eq_true q109) | ((with_reducible refine gate_dst (N := 5) rfl ?_); refine bx_ 5 #[.int .i64 0, .int .i64 0, .int .i64 0] 44 ?_; intro gb110 hg w8 hbox hb; have n0_ := bk_ BK108 hb; have n1_ := Aside0.mk (below_step hb_ hb); have n2_ := Aside0.mk (hbox); have n3_ := Aside0.mk ((by rw [hg]; exact (below_size hb_) : w.heap.size ≤ gb110)); have n4_ := Aside0.mk ((by rw [hg]; exact (below_size hb_) : w.heap.size ≤ gb110)); have n5_ := Aside0.mk ((by rw [hg]; exact Nat.ne_of_lt (blk_lt (bj_ BK108)) : gb108 ≠ gb110)); have n6_ := Aside0.mk ((by rw [hg]; exact Nat.ne_of_gt (blk_lt (bj_ BK108)) : gb110 ≠ gb108)); clear BK108; clear HB; have BK108 := n0_; have HB := n1_; have BK110 := n2_; have GW110 := n3_; have GE110 := n4_; have NB108_110 := n5_; have NB110_108 := n6_; clear n0_ n1_ n2_ n3_ n4_ n5_ n6_; clear hb hbox hg; have hnb9 := NB110_108.out; have hnc9 := NB108_110.out; have hcz10_0 := bc0 BK110; have hcz10_1 := bc1 BK110; have hcz10_2 := bc2 BK110; have hfz10_0 := blk_frozen BK110.out 0; have hfz10_1 := blk_frozen BK110.out 1; have hfz10_2 := blk_frozen BK110.out 2)); go_upto_region 2 with (first | ((with_reducible refine gate_dst (N := 2) rfl ?_); refine bx_ 2 #[.int .i64 a0_0, .slice A0_1 l0_1.length c0_1, .int .i64 a0_2, .int .i64 a0_3, .slice A0_4 l0_4.length c0_4, .slice A0_5 l0_5.length c0_5] 26 ?_; intro gb108 hg w6 hbox hb; have n0_ := Aside0.mk (below_step hb_ hb); have n1_ := Aside0.mk (hbox); have n2_ := Aside0.mk ((by rw [hg]; exact (below_size hb_) : w.heap.size ≤ gb108)); have n3_ := Aside0.mk ((by rw [hg]; exact (below_size hb_) : w.heap.size ≤ gb108)); clear HB; have HB := n0_; have BK108 := n1_; have GW108 := n2_; have GE108 := n3_; clear n0_ n1_ n2_ n3_; clear hb hbox hg; have hcz7_0 := bc0 BK108; have hcz7_1 := bc1 BK108; have hcz7_2 := bc2 BK108; have hcz7_3 := bc3 BK108; have hcz7_4 := bc4 BK108; have hcz7_5 := bc5 BK108; have hfz7_0 := blk_frozen BK108.out 0; have hfz7_1 := blk_frozen BK108.out 1; have hfz7_2 := blk_frozen BK108.out 2; have hfz7_3 := blk_frozen BK108.out 3; have hfz7_4 := blk_frozen BK108.out 4; have hfz7_5 := blk_frozen BK108.out 5; have p109 : 0 ≤ (a1 : Int) := of_decide_eq_true (by assumption); have q109 : a1 < (l0_4.length : Int) := of_decide_eq_true (by assumption); obtain ⟨ad109, e109, hx109_0, hx109_1, hx109_2⟩ := at_T44 HR0_4.out a1 p109 q109; cases e109; replace hx109_0 := (HB.out.cell (World.block_lt_of_cell? w _ hx109_0)).trans hx109_0; replace hx109_1 := (HB.out.cell (World.block_lt_of_cell? w _ hx109_1)).trans hx109_1; replace hx109_2 := (HB.out.cell (World.block_lt_of_cell? w _ hx109_2)).trans hx109_2; replace p109 := eq_true p109; replace q109 := eq_true q109) | ((with_reducible refine gate_dst (N := 5) rfl ?_); refine bx_ 5 #[.int .i64 0, .int .i64 0, .int .i64 0] 44 ?_; intro gb110 hg w8 hbox hb; have n0_ := bk_ BK108 hb; have n1_ := Aside0.mk (below_step hb_ hb); have n2_ := Aside0.mk (hbox); have n3_ := Aside0.mk ((by rw [hg]; exact (below_size hb_) : w.heap.size ≤ gb110)); have n4_ := Aside0.mk ((by rw [hg]; exact (below_size hb_) : w.heap.size ≤ gb110)); have n5_ := Aside0.mk ((by rw [hg]; exact Nat.ne_of_lt (blk_lt (bj_ BK108)) : gb108 ≠ gb110)); have n6_ := Aside0.mk ((by rw [hg]; exact Nat.ne_of_gt (blk_lt (bj_ BK108)) : gb110 ≠ gb108)); clear BK108; clear HB; have BK108 := n0_; have HB := n1_; have BK110 := n2_; have GW110 := n3_; have GE110 := n4_; have NB108_110 := n5_; have NB110_108 := n6_; clear n0_ n1_ n2_ n3_ n4_ n5_ n6_; clear hb hbox hg; have hnb9 := NB110_108.out; have hnc9 := NB108_110.out; have hcz10_0 := bc0 BK110; have hcz10_1 := bc1 BK110; have hcz10_2 := bc2 BK110; have hfz10_0 := blk_frozen BK110.out 0; have hfz10_1 := blk_frozen BK110.out 1; have hfz10_2 := blk_frozen BK110.out 2)))
   (try simp only [Act.put, List.setIfInBounds_toArray, List.set_cons_zero, List.set_cons_succ])
   go_cut [39] (fun v39 wc => ∃ (kq : Nat) (x39_4 : Bool), v39 = .bool x39_4 ∧ Aside0 (hopmeshref31_link.j0 kq a1 x39_4 a0_0 l0_1 a0_2 a0_3 l0_4 l0_5 ((rd_T44 l0_4 a1).f0) ((rd_T44 l0_4 a1).f1) ((rd_T44 l0_4 a1).f2) = some r) ∧ Aside0 (kq ≤ k) ∧ Aside0 (wc.heap[gb108]? = some (.cells #[.int .i64 a0_0, (.slice A0_1 l0_1.length c0_1), .int .i64 a0_2, .int .i64 a0_3, (.slice (some ad109) l0_4.length c0_4), (.slice A0_5 l0_5.length c0_5)] 26 (0, 0))) ∧ Aside0 (wc.heap[gb110]? = some (.cells #[.int .i64 ((rd_T44 l0_4 a1).f0), .int .i64 ((rd_T44 l0_4 a1).f1), .int .i64 ((rd_T44 l0_4 a1).f2)] 44 (0, 0))) ∧ Aside0 (Below w.heap.size w wc))
   case first =>
    have H := HC5.out
    clear HC5
    replace H := Option.bind_eq_some_iff.mp H
    obtain ⟨t111, A110, H⟩ := H
    replace H : (if t111 = true then ((hopmeshref31_in.f ((rd_T44 l0_4 a1).f1) 0 (wrap64 (a0_0 - 1))).bind fun t112 => (if t112 = true then (if ((rd_T44 l0_4 a1).f0) = ((rd_T44 l0_4 a1).f1) then (hopmeshref31_link.j0 k a1 true a0_0 l0_1 a0_2 a0_3 l0_4 l0_5 ((rd_T44 l0_4 a1).f0) ((rd_T44 l0_4 a1).f1) ((rd_T44 l0_4 a1).f2)) else ((hopmeshref31_in.f ((rd_T44 l0_4 a1).f2) 0 7).bind fun t113 => (hopmeshref31_link.j0 k a1 (!t113) a0_0 l0_1 a0_2 a0_3 l0_4 l0_5 ((rd_T44 l0_4 a1).f0) ((rd_T44 l0_4 a1).f1) ((rd_T44 l0_4 a1).f2)))) else (hopmeshref31_link.j0 k a1 true a0_0 l0_1 a0_2 a0_3 l0_4 l0_5 ((rd_T44 l0_4 a1).f0) ((rd_T44 l0_4 a1).f1) ((rd_T44 l0_4 a1).f2)))) else (hopmeshref31_link.j0 k a1 true a0_0 l0_1 a0_2 a0_3 l0_4 l0_5 ((rd_T44 l0_4 a1).f0) ((rd_T44 l0_4 a1).f1) ((rd_T44 l0_4 a1).f2))) = some r := H
    have A11 := Aside0.mk A110
    clear A110
    by_cases c12 : t111 = true
    ·
     subst c12
     have H1 : ((hopmeshref31_in.f ((rd_T44 l0_4 a1).f1) 0 (wrap64 (a0_0 - 1))).bind fun t112 => (if t112 = true then (if ((rd_T44 l0_4 a1).f0) = ((rd_T44 l0_4 a1).f1) then (hopmeshref31_link.j0 k a1 true a0_0 l0_1 a0_2 a0_3 l0_4 l0_5 ((rd_T44 l0_4 a1).f0) ((rd_T44 l0_4 a1).f1) ((rd_T44 l0_4 a1).f2)) else ((hopmeshref31_in.f ((rd_T44 l0_4 a1).f2) 0 7).bind fun t113 => (hopmeshref31_link.j0 k a1 (!t113) a0_0 l0_1 a0_2 a0_3 l0_4 l0_5 ((rd_T44 l0_4 a1).f0) ((rd_T44 l0_4 a1).f1) ((rd_T44 l0_4 a1).f2)))) else (hopmeshref31_link.j0 k a1 true a0_0 l0_1 a0_2 a0_3 l0_4 l0_5 ((rd_T44 l0_4 a1).f0) ((rd_T44 l0_4 a1).f1) ((rd_T44 l0_4 a1).f2)))) = some r := by rw [if_pos rfl] at H; exact H
     clear H
     have H := H1
     clear H1
     replace H := Option.bind_eq_some_iff.mp H
     obtain ⟨t112, A130, H⟩ := H
     replace H : (if t112 = true then (if ((rd_T44 l0_4 a1).f0) = ((rd_T44 l0_4 a1).f1) then (hopmeshref31_link.j0 k a1 true a0_0 l0_1 a0_2 a0_3 l0_4 l0_5 ((rd_T44 l0_4 a1).f0) ((rd_T44 l0_4 a1).f1) ((rd_T44 l0_4 a1).f2)) else ((hopmeshref31_in.f ((rd_T44 l0_4 a1).f2) 0 7).bind fun t113 => (hopmeshref31_link.j0 k a1 (!t113) a0_0 l0_1 a0_2 a0_3 l0_4 l0_5 ((rd_T44 l0_4 a1).f0) ((rd_T44 l0_4 a1).f1) ((rd_T44 l0_4 a1).f2)))) else (hopmeshref31_link.j0 k a1 true a0_0 l0_1 a0_2 a0_3 l0_4 l0_5 ((rd_T44 l0_4 a1).f0) ((rd_T44 l0_4 a1).f1) ((rd_T44 l0_4 a1).f2))) = some r := H
     have A13 := Aside0.mk A130
     clear A130
     by_cases c14 : t112 = true
     ·
      subst c14
      have H1 : (if ((rd_T44 l0_4 a1).f0) = ((rd_T44 l0_4 a1).f1) then (hopmeshref31_link.j0 k a1 true a0_0 l0_1 a0_2 a0_3 l0_4 l0_5 ((rd_T44 l0_4 a1).f0) ((rd_T44 l0_4 a1).f1) ((rd_T44 l0_4 a1).f2)) else ((hopmeshref31_in.f ((rd_T44 l0_4 a1).f2) 0 7).bind fun t113 => (hopmeshref31_link.j0 k a1 (!t113) a0_0 l0_1 a0_2 a0_3 l0_4 l0_5 ((rd_T44 l0_4 a1).f0) ((rd_T44 l0_4 a1).f1) ((rd_T44 l0_4 a1).f2)))) = some r := by rw [if_pos rfl] at H; exact H
      clear H
      have H := H1
      clear H1
      by_cases c15 : ((rd_T44 l0_4 a1).f0) = ((rd_T44 l0_4 a1).f1)
      ·
       rw [if_pos c15] at H
       have c15b0 : (((rd_T44 l0_4 a1).f0) == ((rd_T44 l0_4 a1).f1)) = true := beq_iff_eq.mpr c15
       have c15b1 : (((rd_T44 l0_4 a1).f0) != ((rd_T44 l0_4 a1).f1)) = false := bne_eq_false_iff_eq.mpr c15
       clear c15
       (first | rw [c15b0] | (simp only [i64_w, i32_w]; rw [c15b0]) | skip)
       have H' := Aside0.mk H
       clear H
       have hnb16 := NB110_108.out
       have hnc16 := NB108_110.out
       have hcz17_0 := bc0 BK110
       have hcz17_1 := bc1 BK110
       have hcz17_2 := bc2 BK110
       have hfz17_0 := blk_frozen BK110.out 0
       have hfz17_1 := blk_frozen BK110.out 1
       have hfz17_2 := blk_frozen BK110.out 2
       have hcz18_0 := bc0 BK108
       have hcz18_1 := bc1 BK108
       have hcz18_2 := bc2 BK108
       have hcz18_3 := bc3 BK108
       have hcz18_4 := bc4 BK108
       have hcz18_5 := bc5 BK108
       have hfz18_0 := blk_frozen BK108.out 0
       have hfz18_1 := blk_frozen BK108.out 1
       have hfz18_2 := blk_frozen BK108.out 2
       have hfz18_3 := blk_frozen BK108.out 3
       have hfz18_4 := blk_frozen BK108.out 4
       have hfz18_5 := blk_frozen BK108.out 5
       go_wp2_with (first | (go_at_call 61; (with_reducible refine (hopmeshref31_in.calls ((rd_T44 l0_4 a1).f0) 0 (wrap64 (a0_0 - 1)) true _ A11.out).mono ?_); rintro e w' ⟨rfl, ⟨nd, rfl⟩⟩; (try first | exact ⟨rfl, _, World.drewN_drewN _ _ _⟩ | exact ⟨rfl, _, Eq.trans (World.drewN_drewN _ _ _) (congrArg (World.drewN _) (Nat.add_assoc _ _ _))⟩)) | (go_at_call 61; (with_reducible refine (hopmeshref31_in.calls ((rd_T44 l0_4 a1).f1) 0 (wrap64 (a0_0 - 1)) true _ A13.out).mono ?_); rintro e w' ⟨rfl, ⟨nd, rfl⟩⟩; (try first | exact ⟨rfl, _, World.drewN_drewN _ _ _⟩ | exact ⟨rfl, _, Eq.trans (World.drewN_drewN _ _ _) (congrArg (World.drewN _) (Nat.add_assoc _ _ _))⟩)))
       repeat (go_quiet (first | (go_at_call 61; (with_reducible refine (hopmeshref31_in.calls ((rd_T44 l0_4 a1).f0) 0 (wrap64 (a0_0 - 1)) true _ A11.out).mono ?_); rintro e w' ⟨rfl, ⟨nd, rfl⟩⟩; (try first | exact ⟨rfl, _, World.drewN_drewN _ _ _⟩ | exact ⟨rfl, _, Eq.trans (World.drewN_drewN _ _ _) (congrArg (World.drewN _) (Nat.add_assoc _ _ _))⟩)) | (go_at_call 61; (with_reducible refine (hopmeshref31_in.calls ((rd_T44 l0_4 a1).f1) 0 (wrap64 (a0_0 - 1)) true _ A13.out).mono ?_); rintro e w' ⟨rfl, ⟨nd, rfl⟩⟩; (try first | exact ⟨rfl, _, World.drewN_drewN _ _ _⟩ | exact ⟨rfl, _, Eq.trans (World.drewN_drewN _ _ _) (congrArg (World.drewN _) (Nat.add_assoc _ _ _))⟩))); try go_wp2_with (first | (go_at_call 61; (with_reducible refine (hopmeshref31_in.calls ((rd_T44 l0_4 a1).f0) 0 (wrap64 (a0_0 - 1)) true _ A11.out).mono ?_); rintro e w' ⟨rfl, ⟨nd, rfl⟩⟩; (try first | exact ⟨rfl, _, World.drewN_drewN _ _ _⟩ | exact ⟨rfl, _, Eq.trans (World.drewN_drewN _ _ _) (congrArg (World.drewN _) (Nat.add_assoc _ _ _))⟩)) | (go_at_call 61; (with_reducible refine (hopmeshref31_in.calls ((rd_T44 l0_4 a1).f1) 0 (wrap64 (a0_0 - 1)) true _ A13.out).mono ?_); rintro e w' ⟨rfl, ⟨nd, rfl⟩⟩; (try first | exact ⟨rfl, _, World.drewN_drewN _ _ _⟩ | exact ⟨rfl, _, Eq.trans (World.drewN_drewN _ _ _) (congrArg (World.drewN _) (Nat.add_assoc _ _ _))⟩))))
       go_meet
       case rel => exact ⟨_, (true), rl_, H', ⟨by first | omega | exact Nat.le_refl _⟩, ⟨by (with_reducible repeat (first | refine blk_drewN ?_ _ | refine blk_drew ?_ | refine blk_alloc ?_ _)); refine blk_far ?_ NB108_110.out _; (with_reducible repeat (first | refine blk_drewN ?_ _ | refine blk_drew ?_ | refine blk_alloc ?_ _)); refine blk_far ?_ NB108_110.out _; (with_reducible repeat (first | refine blk_drewN ?_ _ | refine blk_drew ?_ | refine blk_alloc ?_ _)); refine blk_far ?_ NB108_110.out _; (with_reducible repeat (first | refine blk_drewN ?_ _ | refine blk_drew ?_ | refine blk_alloc ?_ _)); exact BK108.out⟩, ⟨by (with_reducible repeat (first | refine blk_drewN ?_ _ | refine blk_drew ?_ | refine blk_alloc ?_ _)); refine blk_put (cs := #[.int .i64 ((rd_T44 l0_4 a1).f0), .int .i64 ((rd_T44 l0_4 a1).f1), .int .i64 0]) ?_ 2 _ rfl; (with_reducible repeat (first | refine blk_drewN ?_ _ | refine blk_drew ?_ | refine blk_alloc ?_ _)); refine blk_put (cs := #[.int .i64 ((rd_T44 l0_4 a1).f0), .int .i64 0, .int .i64 0]) ?_ 1 _ rfl; (with_reducible repeat (first | refine blk_drewN ?_ _ | refine blk_drew ?_ | refine blk_alloc ?_ _)); refine blk_put (cs := #[.int .i64 0, .int .i64 0, .int .i64 0]) ?_ 0 _ rfl; (with_reducible repeat (first | refine blk_drewN ?_ _ | refine blk_drew ?_ | refine blk_alloc ?_ _)); exact BK110.out⟩, ⟨hb_⟩⟩
      ·
       rw [if_neg c15] at H
       have c15b0 : (((rd_T44 l0_4 a1).f0) == ((rd_T44 l0_4 a1).f1)) = false := beq_eq_false_iff_ne.mpr c15
       have c15b1 : (((rd_T44 l0_4 a1).f0) != ((rd_T44 l0_4 a1).f1)) = true := bne_iff_ne.mpr c15
       (first | rw [c15b0] | (simp only [i64_w, i32_w]; rw [c15b0]) | skip)
       replace H := Option.bind_eq_some_iff.mp H
       obtain ⟨t113, A190, H⟩ := H
       replace H : (hopmeshref31_link.j0 k a1 (!t113) a0_0 l0_1 a0_2 a0_3 l0_4 l0_5 ((rd_T44 l0_4 a1).f0) ((rd_T44 l0_4 a1).f1) ((rd_T44 l0_4 a1).f2)) = some r := H
       have A19 := Aside0.mk A190
       clear A190
       have H' := Aside0.mk H
       clear H
       have hnb20 := NB110_108.out
       have hnc20 := NB108_110.out
       have hcz21_0 := bc0 BK110
       have hcz21_1 := bc1 BK110
       have hcz21_2 := bc2 BK110
       have hfz21_0 := blk_frozen BK110.out 0
       have hfz21_1 := blk_frozen BK110.out 1
       have hfz21_2 := blk_frozen BK110.out 2
       have hcz22_0 := bc0 BK108
       have hcz22_1 := bc1 BK108
       have hcz22_2 := bc2 BK108
       have hcz22_3 := bc3 BK108
       have hcz22_4 := bc4 BK108
       have hcz22_5 := bc5 BK108
       have hfz22_0 := blk_frozen BK108.out 0
       have hfz22_1 := blk_frozen BK108.out 1
       have hfz22_2 := blk_frozen BK108.out 2
       have hfz22_3 := blk_frozen BK108.out 3
       have hfz22_4 := blk_frozen BK108.out 4
       have hfz22_5 := blk_frozen BK108.out 5
       go_wp2_with (first | (go_at_call 61; (with_reducible refine (hopmeshref31_in.calls ((rd_T44 l0_4 a1).f0) 0 (wrap64 (a0_0 - 1)) true _ A11.out).mono ?_); rintro e w' ⟨rfl, ⟨nd, rfl⟩⟩; (try first | exact ⟨rfl, _, World.drewN_drewN _ _ _⟩ | exact ⟨rfl, _, Eq.trans (World.drewN_drewN _ _ _) (congrArg (World.drewN _) (Nat.add_assoc _ _ _))⟩)) | (go_at_call 61; (with_reducible refine (hopmeshref31_in.calls ((rd_T44 l0_4 a1).f1) 0 (wrap64 (a0_0 - 1)) true _ A13.out).mono ?_); rintro e w' ⟨rfl, ⟨nd, rfl⟩⟩; (try first | exact ⟨rfl, _, World.drewN_drewN _ _ _⟩ | exact ⟨rfl, _, Eq.trans (World.drewN_drewN _ _ _) (congrArg (World.drewN _) (Nat.add_assoc _ _ _))⟩)) | (go_at_call 61; (with_reducible refine (hopmeshref31_in.calls ((rd_T44 l0_4 a1).f2) 0 7 t113 _ A19.out).mono ?_); rintro e w' ⟨rfl, ⟨nd, rfl⟩⟩; (try first | exact ⟨rfl, _, World.drewN_drewN _ _ _⟩ | exact ⟨rfl, _, Eq.trans (World.drewN_drewN _ _ _) (congrArg (World.drewN _) (Nat.add_assoc _ _ _))⟩)))
       repeat (go_quiet (first | (go_at_call 61; (with_reducible refine (hopmeshref31_in.calls ((rd_T44 l0_4 a1).f0) 0 (wrap64 (a0_0 - 1)) true _ A11.out).mono ?_); rintro e w' ⟨rfl, ⟨nd, rfl⟩⟩; (try first | exact ⟨rfl, _, World.drewN_drewN _ _ _⟩ | exact ⟨rfl, _, Eq.trans (World.drewN_drewN _ _ _) (congrArg (World.drewN _) (Nat.add_assoc _ _ _))⟩)) | (go_at_call 61; (with_reducible refine (hopmeshref31_in.calls ((rd_T44 l0_4 a1).f1) 0 (wrap64 (a0_0 - 1)) true _ A13.out).mono ?_); rintro e w' ⟨rfl, ⟨nd, rfl⟩⟩; (try first | exact ⟨rfl, _, World.drewN_drewN _ _ _⟩ | exact ⟨rfl, _, Eq.trans (World.drewN_drewN _ _ _) (congrArg (World.drewN _) (Nat.add_assoc _ _ _))⟩)) | (go_at_call 61; (with_reducible refine (hopmeshref31_in.calls ((rd_T44 l0_4 a1).f2) 0 7 t113 _ A19.out).mono ?_); rintro e w' ⟨rfl, ⟨nd, rfl⟩⟩; (try first | exact ⟨rfl, _, World.drewN_drewN _ _ _⟩ | exact ⟨rfl, _, Eq.trans (World.drewN_drewN _ _ _) (congrArg (World.drewN _) (Nat.add_assoc _ _ _))⟩))); try go_wp2_with (first | (go_at_call 61; (with_reducible refine (hopmeshref31_in.calls ((rd_T44 l0_4 a1).f0) 0 (wrap64 (a0_0 - 1)) true _ A11.out).mono ?_); rintro e w' ⟨rfl, ⟨nd, rfl⟩⟩; (try first | exact ⟨rfl, _, World.drewN_drewN _ _ _⟩ | exact ⟨rfl, _, Eq.trans (World.drewN_drewN _ _ _) (congrArg (World.drewN _) (Nat.add_assoc _ _ _))⟩)) | (go_at_call 61; (with_reducible refine (hopmeshref31_in.calls ((rd_T44 l0_4 a1).f1) 0 (wrap64 (a0_0 - 1)) true _ A13.out).mono ?_); rintro e w' ⟨rfl, ⟨nd, rfl⟩⟩; (try first | exact ⟨rfl, _, World.drewN_drewN _ _ _⟩ | exact ⟨rfl, _, Eq.trans (World.drewN_drewN _ _ _) (congrArg (World.drewN _) (Nat.add_assoc _ _ _))⟩)) | (go_at_call 61; (with_reducible refine (hopmeshref31_in.calls ((rd_T44 l0_4 a1).f2) 0 7 t113 _ A19.out).mono ?_); rintro e w' ⟨rfl, ⟨nd, rfl⟩⟩; (try first | exact ⟨rfl, _, World.drewN_drewN _ _ _⟩ | exact ⟨rfl, _, Eq.trans (World.drewN_drewN _ _ _) (congrArg (World.drewN _) (Nat.add_assoc _ _ _))⟩))))
       go_meet
       case rel => exact ⟨_, (!t113), rl_, H', ⟨by first | omega | exact Nat.le_refl _⟩, ⟨by (with_reducible repeat (first | refine blk_drewN ?_ _ | refine blk_drew ?_ | refine blk_alloc ?_ _)); refine blk_far ?_ NB108_110.out _; (with_reducible repeat (first | refine blk_drewN ?_ _ | refine blk_drew ?_ | refine blk_alloc ?_ _)); refine blk_far ?_ NB108_110.out _; (with_reducible repeat (first | refine blk_drewN ?_ _ | refine blk_drew ?_ | refine blk_alloc ?_ _)); refine blk_far ?_ NB108_110.out _; (with_reducible repeat (first | refine blk_drewN ?_ _ | refine blk_drew ?_ | refine blk_alloc ?_ _)); exact BK108.out⟩, ⟨by (with_reducible repeat (first | refine blk_drewN ?_ _ | refine blk_drew ?_ | refine blk_alloc ?_ _)); refine blk_put (cs := #[.int .i64 ((rd_T44 l0_4 a1).f0), .int .i64 ((rd_T44 l0_4 a1).f1), .int .i64 0]) ?_ 2 _ rfl; (with_reducible repeat (first | refine blk_drewN ?_ _ | refine blk_drew ?_ | refine blk_alloc ?_ _)); refine blk_put (cs := #[.int .i64 ((rd_T44 l0_4 a1).f0), .int .i64 0, .int .i64 0]) ?_ 1 _ rfl; (with_reducible repeat (first | refine blk_drewN ?_ _ | refine blk_drew ?_ | refine blk_alloc ?_ _)); refine blk_put (cs := #[.int .i64 0, .int .i64 0, .int .i64 0]) ?_ 0 _ rfl; (with_reducible repeat (first | refine blk_drewN ?_ _ | refine blk_drew ?_ | refine blk_alloc ?_ _)); exact BK110.out⟩, ⟨hb_⟩⟩
     ·
      replace c14 := Bool.eq_false_iff.mpr c14
      subst c14
      have H1 : (hopmeshref31_link.j0 k a1 true a0_0 l0_1 a0_2 a0_3 l0_4 l0_5 ((rd_T44 l0_4 a1).f0) ((rd_T44 l0_4 a1).f1) ((rd_T44 l0_4 a1).f2)) = some r := by rw [if_neg (show ¬ (false = true) by decide)] at H; exact H
      clear H
      have H := H1
      clear H1
      have H' := Aside0.mk H
      clear H
      have hnb23 := NB110_108.out
      have hnc23 := NB108_110.out
      have hcz24_0 := bc0 BK110
      have hcz24_1 := bc1 BK110
      have hcz24_2 := bc2 BK110
      have hfz24_0 := blk_frozen BK110.out 0
      have hfz24_1 := blk_frozen BK110.out 1
      have hfz24_2 := blk_frozen BK110.out 2
      have hcz25_0 := bc0 BK108
      have hcz25_1 := bc1 BK108
      have hcz25_2 := bc2 BK108
      have hcz25_3 := bc3 BK108
      have hcz25_4 := bc4 BK108
      have hcz25_5 := bc5 BK108
      have hfz25_0 := blk_frozen BK108.out 0
      have hfz25_1 := blk_frozen BK108.out 1
      have hfz25_2 := blk_frozen BK108.out 2
      have hfz25_3 := blk_frozen BK108.out 3
      have hfz25_4 := blk_frozen BK108.out 4
      have hfz25_5 := blk_frozen BK108.out 5
      go_wp2_with (first | (go_at_call 61; (with_reducible refine (hopmeshref31_in.calls ((rd_T44 l0_4 a1).f0) 0 (wrap64 (a0_0 - 1)) true _ A11.out).mono ?_); rintro e w' ⟨rfl, ⟨nd, rfl⟩⟩; (try first | exact ⟨rfl, _, World.drewN_drewN _ _ _⟩ | exact ⟨rfl, _, Eq.trans (World.drewN_drewN _ _ _) (congrArg (World.drewN _) (Nat.add_assoc _ _ _))⟩)) | (go_at_call 61; (with_reducible refine (hopmeshref31_in.calls ((rd_T44 l0_4 a1).f1) 0 (wrap64 (a0_0 - 1)) false _ A13.out).mono ?_); rintro e w' ⟨rfl, ⟨nd, rfl⟩⟩; (try first | exact ⟨rfl, _, World.drewN_drewN _ _ _⟩ | exact ⟨rfl, _, Eq.trans (World.drewN_drewN _ _ _) (congrArg (World.drewN _) (Nat.add_assoc _ _ _))⟩)))
      repeat (go_quiet (first | (go_at_call 61; (with_reducible refine (hopmeshref31_in.calls ((rd_T44 l0_4 a1).f0) 0 (wrap64 (a0_0 - 1)) true _ A11.out).mono ?_); rintro e w' ⟨rfl, ⟨nd, rfl⟩⟩; (try first | exact ⟨rfl, _, World.drewN_drewN _ _ _⟩ | exact ⟨rfl, _, Eq.trans (World.drewN_drewN _ _ _) (congrArg (World.drewN _) (Nat.add_assoc _ _ _))⟩)) | (go_at_call 61; (with_reducible refine (hopmeshref31_in.calls ((rd_T44 l0_4 a1).f1) 0 (wrap64 (a0_0 - 1)) false _ A13.out).mono ?_); rintro e w' ⟨rfl, ⟨nd, rfl⟩⟩; (try first | exact ⟨rfl, _, World.drewN_drewN _ _ _⟩ | exact ⟨rfl, _, Eq.trans (World.drewN_drewN _ _ _) (congrArg (World.drewN _) (Nat.add_assoc _ _ _))⟩))); try go_wp2_with (first | (go_at_call 61; (with_reducible refine (hopmeshref31_in.calls ((rd_T44 l0_4 a1).f0) 0 (wrap64 (a0_0 - 1)) true _ A11.out).mono ?_); rintro e w' ⟨rfl, ⟨nd, rfl⟩⟩; (try first | exact ⟨rfl, _, World.drewN_drewN _ _ _⟩ | exact ⟨rfl, _, Eq.trans (World.drewN_drewN _ _ _) (congrArg (World.drewN _) (Nat.add_assoc _ _ _))⟩)) | (go_at_call 61; (with_reducible refine (hopmeshref31_in.calls ((rd_T44 l0_4 a1).f1) 0 (wrap64 (a0_0 - 1)) false _ A13.out).mono ?_); rintro e w' ⟨rfl, ⟨nd, rfl⟩⟩; (try first | exact ⟨rfl, _, World.drewN_drewN _ _ _⟩ | exact ⟨rfl, _, Eq.trans (World.drewN_drewN _ _ _) (congrArg (World.drewN _) (Nat.add_assoc _ _ _))⟩))))
      go_meet
      case rel => exact ⟨_, (true), rl_, H', ⟨by first | omega | exact Nat.le_refl _⟩, ⟨by (with_reducible repeat (first | refine blk_drewN ?_ _ | refine blk_drew ?_ | refine blk_alloc ?_ _)); refine blk_far ?_ NB108_110.out _; (with_reducible repeat (first | refine blk_drewN ?_ _ | refine blk_drew ?_ | refine blk_alloc ?_ _)); refine blk_far ?_ NB108_110.out _; (with_reducible repeat (first | refine blk_drewN ?_ _ | refine blk_drew ?_ | refine blk_alloc ?_ _)); refine blk_far ?_ NB108_110.out _; (with_reducible repeat (first | refine blk_drewN ?_ _ | refine blk_drew ?_ | refine blk_alloc ?_ _)); exact BK108.out⟩, ⟨by (with_reducible repeat (first | refine blk_drewN ?_ _ | refine blk_drew ?_ | refine blk_alloc ?_ _)); refine blk_put (cs := #[.int .i64 ((rd_T44 l0_4 a1).f0), .int .i64 ((rd_T44 l0_4 a1).f1), .int .i64 0]) ?_ 2 _ rfl; (with_reducible repeat (first | refine blk_drewN ?_ _ | refine blk_drew ?_ | refine blk_alloc ?_ _)); refine blk_put (cs := #[.int .i64 ((rd_T44 l0_4 a1).f0), .int .i64 0, .int .i64 0]) ?_ 1 _ rfl; (with_reducible repeat (first | refine blk_drewN ?_ _ | refine blk_drew ?_ | refine blk_alloc ?_ _)); refine blk_put (cs := #[.int .i64 0, .int .i64 0, .int .i64 0]) ?_ 0 _ rfl; (with_reducible repeat (first | refine blk_drewN ?_ _ | refine blk_drew ?_ | refine blk_alloc ?_ _)); exact BK110.out⟩, ⟨hb_⟩⟩
    ·
     replace c12 := Bool.eq_false_iff.mpr c12
     subst c12
     have H1 : (hopmeshref31_link.j0 k a1 true a0_0 l0_1 a0_2 a0_3 l0_4 l0_5 ((rd_T44 l0_4 a1).f0) ((rd_T44 l0_4 a1).f1) ((rd_T44 l0_4 a1).f2)) = some r := by rw [if_neg (show ¬ (false = true) by decide)] at H; exact H
     clear H
     have H := H1
     clear H1
     have H' := Aside0.mk H
     clear H
     have hnb26 := NB110_108.out
     have hnc26 := NB108_110.out
     have hcz27_0 := bc0 BK110
     have hcz27_1 := bc1 BK110
     have hcz27_2 := bc2 BK110
     have hfz27_0 := blk_frozen BK110.out 0
     have hfz27_1 := blk_frozen BK110.out 1
     have hfz27_2 := blk_frozen BK110.out 2
     have hcz28_0 := bc0 BK108
     have hcz28_1 := bc1 BK108
     have hcz28_2 := bc2 BK108
     have hcz28_3 := bc3 BK108
     have hcz28_4 := bc4 BK108
     have hcz28_5 := bc5 BK108
     have hfz28_0 := blk_frozen BK108.out 0
     have hfz28_1 := blk_frozen BK108.out 1
     have hfz28_2 := blk_frozen BK108.out 2
     have hfz28_3 := blk_frozen BK108.out 3
     have hfz28_4 := blk_frozen BK108.out 4
     have hfz28_5 := blk_frozen BK108.out 5
     go_wp2_with (first | (go_at_call 61; (with_reducible refine (hopmeshref31_in.calls ((rd_T44 l0_4 a1).f0) 0 (wrap64 (a0_0 - 1)) false _ A11.out).mono ?_); rintro e w' ⟨rfl, ⟨nd, rfl⟩⟩; (try first | exact ⟨rfl, _, World.drewN_drewN _ _ _⟩ | exact ⟨rfl, _, Eq.trans (World.drewN_drewN _ _ _) (congrArg (World.drewN _) (Nat.add_assoc _ _ _))⟩)))
     repeat (go_quiet (first | (go_at_call 61; (with_reducible refine (hopmeshref31_in.calls ((rd_T44 l0_4 a1).f0) 0 (wrap64 (a0_0 - 1)) false _ A11.out).mono ?_); rintro e w' ⟨rfl, ⟨nd, rfl⟩⟩; (try first | exact ⟨rfl, _, World.drewN_drewN _ _ _⟩ | exact ⟨rfl, _, Eq.trans (World.drewN_drewN _ _ _) (congrArg (World.drewN _) (Nat.add_assoc _ _ _))⟩))); try go_wp2_with (first | (go_at_call 61; (with_reducible refine (hopmeshref31_in.calls ((rd_T44 l0_4 a1).f0) 0 (wrap64 (a0_0 - 1)) false _ A11.out).mono ?_); rintro e w' ⟨rfl, ⟨nd, rfl⟩⟩; (try first | exact ⟨rfl, _, World.drewN_drewN _ _ _⟩ | exact ⟨rfl, _, Eq.trans (World.drewN_drewN _ _ _) (congrArg (World.drewN _) (Nat.add_assoc _ _ _))⟩))))
     go_meet
     case rel => exact ⟨_, (true), rl_, H', ⟨by first | omega | exact Nat.le_refl _⟩, ⟨by (with_reducible repeat (first | refine blk_drewN ?_ _ | refine blk_drew ?_ | refine blk_alloc ?_ _)); refine blk_far ?_ NB108_110.out _; (with_reducible repeat (first | refine blk_drewN ?_ _ | refine blk_drew ?_ | refine blk_alloc ?_ _)); refine blk_far ?_ NB108_110.out _; (with_reducible repeat (first | refine blk_drewN ?_ _ | refine blk_drew ?_ | refine blk_alloc ?_ _)); refine blk_far ?_ NB108_110.out _; (with_reducible repeat (first | refine blk_drewN ?_ _ | refine blk_drew ?_ | refine blk_alloc ?_ _)); exact BK108.out⟩, ⟨by (with_reducible repeat (first | refine blk_drewN ?_ _ | refine blk_drew ?_ | refine blk_alloc ?_ _)); refine blk_put (cs := #[.int .i64 ((rd_T44 l0_4 a1).f0), .int .i64 ((rd_T44 l0_4 a1).f1), .int .i64 0]) ?_ 2 _ rfl; (with_reducible repeat (first | refine blk_drewN ?_ _ | refine blk_drew ?_ | refine blk_alloc ?_ _)); refine blk_put (cs := #[.int .i64 ((rd_T44 l0_4 a1).f0), .int .i64 0, .int .i64 0]) ?_ 1 _ rfl; (with_reducible repeat (first | refine blk_drewN ?_ _ | refine blk_drew ?_ | refine blk_alloc ?_ _)); refine blk_put (cs := #[.int .i64 0, .int .i64 0, .int .i64 0]) ?_ 0 _ rfl; (with_reducible repeat (first | refine blk_drewN ?_ _ | refine blk_drew ?_ | refine blk_alloc ?_ _)); exact BK110.out⟩, ⟨hb_⟩⟩
   case rest =>
    clear HC5
    try clear c1; try clear p1; try clear q1; try clear hx1; try clear c2; try clear p2; try clear c3; try clear c3b0; try clear c4; try clear c4b0; try clear c6; try clear p6; try clear c9; try clear p10; try clear q10; try clear hx10; try clear c12; try clear c14; try clear c15; try clear c15b0; try clear c15b1; try clear c16; try clear c20; try clear c23; try clear c26; try clear hcz10_0; try clear hcz10_1; try clear hcz10_2; try clear hcz17_0; try clear hcz17_1; try clear hcz17_2; try clear hcz18_0; try clear hcz18_1; try clear hcz18_2; try clear hcz18_3; try clear hcz18_4; try clear hcz18_5; try clear hcz21_0; try clear hcz21_1; try clear hcz21_2; try clear hcz22_0; try clear hcz22_1; try clear hcz22_2; try clear hcz22_3; try clear hcz22_4; try clear hcz22_5; try clear hcz24_0; try clear hcz24_1; try clear hcz24_2; try clear hcz25_0; try clear hcz25_1; try clear hcz25_2; try clear hcz25_3; try clear hcz25_4; try clear hcz25_5; try clear hcz27_0; try clear hcz27_1; try clear hcz27_2; try clear hcz28_0; try clear hcz28_1; try clear hcz28_2; try clear hcz28_3; try clear hcz28_4; try clear hcz28_5; try clear hcz7_0; try clear hcz7_1; try clear hcz7_2; try clear hcz7_3; try clear hcz7_4; try clear hcz7_5; try clear hfz10_0; try clear hfz10_1; try clear hfz10_2; try clear hfz17_0; try clear hfz17_1; try clear hfz17_2; try clear hfz18_0; try clear hfz18_1; try clear hfz18_2; try clear hfz18_3; try clear hfz18_4; try clear hfz18_5; try clear hfz21_0; try clear hfz21_1; try clear hfz21_2; try clear hfz22_0; try clear hfz22_1; try clear hfz22_2; try clear hfz22_3; try clear hfz22_4; try clear hfz22_5; try clear hfz24_0; try clear hfz24_1; try clear hfz24_2; try clear hfz25_0; try clear hfz25_1; try clear hfz25_2; try clear hfz25_3; try clear hfz25_4; try clear hfz25_5; try clear hfz27_0; try clear hfz27_1; try clear hfz27_2; try clear hfz28_0; try clear hfz28_1; try clear hfz28_2; try clear hfz28_3; try clear hfz28_4; try clear hfz28_5; try clear hfz7_0; try clear hfz7_1; try clear hfz7_2; try clear hfz7_3; try clear hfz7_4; try clear hfz7_5; try clear hx109_0; try clear hx109_1; try clear hx109_2; try clear p109; try clear q109
    (repeat clear BK108); (repeat clear BK110); (repeat clear HB)
    obtain ⟨kq, x39_4, rfl, HA, HJ4, BK108, BK110, HB⟩ := hcut
    cases kq with
    | zero => exact absurd HA.out (by simp [hopmeshref31_link.j0])
    | succ kj4 =>
     have H := HA.out
     clear HA
     simp only [hopmeshref31_link.j0] at H
     by_cases c29 : x39_4 = true
     ·
      subst c29
      have H1 : (some 2) = some r := by rw [if_pos rfl] at H; exact H
      clear H
      have H := H1
      clear H1
      obtain rfl := Option.some.inj H
      go_wp2
      repeat (go_quiet (fail); try go_wp2)
      go_ret
      exact ⟨er_, hb_⟩
     ·
      replace c29 := Bool.eq_false_iff.mpr c29
      subst c29
      have H1 : (if a1 > 0 then (if 0 ≤ (wrap64 (a1 - 1)) then (if (wrap64 (a1 - 1)) < (l0_4.length : Int) then (if ((rd_T44 l0_4 (wrap64 (a1 - 1))).f0) > ((rd_T44 l0_4 a1).f0) then (hopmeshref31_link.j1 kj4 a1 true a0_0 l0_1 a0_2 a0_3 l0_4 l0_5 ((rd_T44 l0_4 a1).f0) ((rd_T44 l0_4 a1).f1) ((rd_T44 l0_4 a1).f2)) else (if ((rd_T44 l0_4 (wrap64 (a1 - 1))).f0) = ((rd_T44 l0_4 a1).f0) then (hopmeshref31_link.j1 kj4 a1 (decide (((rd_T44 l0_4 (wrap64 (a1 - 1))).f1) ≥ ((rd_T44 l0_4 a1).f1))) a0_0 l0_1 a0_2 a0_3 l0_4 l0_5 ((rd_T44 l0_4 a1).f0) ((rd_T44 l0_4 a1).f1) ((rd_T44 l0_4 a1).f2)) else (hopmeshref31_link.j1 kj4 a1 false a0_0 l0_1 a0_2 a0_3 l0_4 l0_5 ((rd_T44 l0_4 a1).f0) ((rd_T44 l0_4 a1).f1) ((rd_T44 l0_4 a1).f2)))) else (none)) else (none)) else (hopmeshref31_link.j1 kj4 a1 false a0_0 l0_1 a0_2 a0_3 l0_4 l0_5 ((rd_T44 l0_4 a1).f0) ((rd_T44 l0_4 a1).f1) ((rd_T44 l0_4 a1).f2))) = some r := by rw [if_neg (show ¬ (false = true) by decide)] at H; exact H
      clear H
      have H := H1
      clear H1
      have HC30 := Aside0.mk H
      clear H
      go_upto_region 4 with (fail)
      repeat (go_quiet (fail); go_upto_region 4 with (fail))
      go_cut [77] (fun v77 wc => ∃ (kq : Nat) (x77_29 : Bool), v77 = .bool x77_29 ∧ Aside0 (hopmeshref31_link.j1 kq a1 x77_29 a0_0 l0_1 a0_2 a0_3 l0_4 l0_5 ((rd_T44 l0_4 a1).f0) ((rd_T44 l0_4 a1).f1) ((rd_T44 l0_4 a1).f2) = some r) ∧ Aside0 (kq ≤ kj4) ∧ Aside0 (wc.heap[gb108]? = some (.cells #[.int .i64 a0_0, (.slice A0_1 l0_1.length c0_1), .int .i64 a0_2, .int .i64 a0_3, (.slice (some ad109) l0_4.length c0_4), (.slice A0_5 l0_5.length c0_5)] 26 (0, 0))) ∧ Aside0 (wc.heap[gb110]? = some (.cells #[.int .i64 ((rd_T44 l0_4 a1).f0), .int .i64 ((rd_T44 l0_4 a1).f1), .int .i64 ((rd_T44 l0_4 a1).f2)] 44 (0, 0))) ∧ Aside0 (Below w.heap.size w wc))
      case first =>
       have H := HC30.out
       clear HC30
       by_cases c31 : a1 > 0
       ·
        rw [if_pos c31] at H
        have c31b0 : decide (0 < a1) = true := decide_eq_true c31
        clear c31
        (first | rw [c31b0] | (simp only [i64_w, i32_w]; rw [c31b0]) | skip)
        obtain ⟨ji32, hji32⟩ : ∃ j_ : Int, (wrap64 (a1 - 1)) = j_ := ⟨_, rfl⟩
        replace H : (if 0 ≤ (ji32) then (if (ji32) < (l0_4.length : Int) then (if ((rd_T44 l0_4 (ji32)).f0) > ((rd_T44 l0_4 a1).f0) then (hopmeshref31_link.j1 kj4 a1 true a0_0 l0_1 a0_2 a0_3 l0_4 l0_5 ((rd_T44 l0_4 a1).f0) ((rd_T44 l0_4 a1).f1) ((rd_T44 l0_4 a1).f2)) else (if ((rd_T44 l0_4 (ji32)).f0) = ((rd_T44 l0_4 a1).f0) then (hopmeshref31_link.j1 kj4 a1 (decide (((rd_T44 l0_4 (ji32)).f1) ≥ ((rd_T44 l0_4 a1).f1))) a0_0 l0_1 a0_2 a0_3 l0_4 l0_5 ((rd_T44 l0_4 a1).f0) ((rd_T44 l0_4 a1).f1) ((rd_T44 l0_4 a1).f2)) else (hopmeshref31_link.j1 kj4 a1 false a0_0 l0_1 a0_2 a0_3 l0_4 l0_5 ((rd_T44 l0_4 a1).f0) ((rd_T44 l0_4 a1).f1) ((rd_T44 l0_4 a1).f2)))) else (none)) else (none)) = some r := by first | (rw [hji32] at H; exact H) | (simp only [hji32] at H ⊢; exact H)
        have hji32w : (IntKind.i64.wrap (a1 - 1)) = ji32 := (i64_w _).trans hji32
        by_cases c33 : 0 ≤ (ji32)
        ·
         rw [if_pos c33] at H
         have c33b0 : decide (0 ≤ (ji32)) = true := decide_eq_true c33
         clear c33
         by_cases c34 : (ji32) < (l0_4.length : Int)
         ·
          rw [if_pos c34] at H
          have c34b0 : decide ((ji32) < (l0_4.length : Int)) = true := decide_eq_true c34
          clear c34
          by_cases c35 : ((rd_T44 l0_4 (ji32)).f0) > ((rd_T44 l0_4 a1).f0)
          ·
           rw [if_pos c35] at H
           have c35b0 : decide (((rd_T44 l0_4 a1).f0) < ((rd_T44 l0_4 (ji32)).f0)) = true := decide_eq_true c35
           clear c35
           have H' := Aside0.mk H
           clear H
           have hnb36 := NB108_110.out
           have hnc36 := NB110_108.out
           have hcz37_0 := bc0 BK108
           have hcz37_1 := bc1 BK108
           have hcz37_2 := bc2 BK108
           have hcz37_3 := bc3 BK108
           have hcz37_4 := bc4 BK108
           have hcz37_5 := bc5 BK108
           have hfz37_0 := blk_frozen BK108.out 0
           have hfz37_1 := blk_frozen BK108.out 1
           have hfz37_2 := blk_frozen BK108.out 2
           have hfz37_3 := blk_frozen BK108.out 3
           have hfz37_4 := blk_frozen BK108.out 4
           have hfz37_5 := blk_frozen BK108.out 5
           have p114 : 0 ≤ ((ji32) : Int) := of_decide_eq_true (by assumption)
           have q114 : (ji32) < (l0_4.length : Int) := of_decide_eq_true (by assumption)
           obtain ⟨ad114, e114, hx114_0, hx114_1, hx114_2⟩ := at_T44 HR0_4.out (ji32) p114 q114
           obtain rfl : ad109 = ad114 := (by injection e114)
           replace hx114_0 := (HB.out.cell (World.block_lt_of_cell? w _ hx114_0)).trans hx114_0
           replace hx114_1 := (HB.out.cell (World.block_lt_of_cell? w _ hx114_1)).trans hx114_1
           replace hx114_2 := (HB.out.cell (World.block_lt_of_cell? w _ hx114_2)).trans hx114_2
           replace p114 := eq_true p114
           replace q114 := eq_true q114
           have hcz38_0 := bc0 BK110
           have hcz38_1 := bc1 BK110
           have hcz38_2 := bc2 BK110
           have hfz38_0 := blk_frozen BK110.out 0
           have hfz38_1 := blk_frozen BK110.out 1
           have hfz38_2 := blk_frozen BK110.out 2
           go_wp2
           repeat (go_quiet (fail); try go_wp2)
           go_meet
           case rel => exact ⟨_, (true), rl_, H', ⟨by have := HJ4.out; first | omega | exact Nat.le_refl _⟩, ⟨bj_ BK108⟩, ⟨bj_ BK110⟩, ⟨hb_⟩⟩
          ·
           rw [if_neg c35] at H
           have c35b0 : decide (((rd_T44 l0_4 a1).f0) < ((rd_T44 l0_4 (ji32)).f0)) = false := decide_eq_false c35
           clear c35
           by_cases c39 : ((rd_T44 l0_4 (ji32)).f0) = ((rd_T44 l0_4 a1).f0)
           ·
            rw [if_pos c39] at H
            have c39b0 : (((rd_T44 l0_4 (ji32)).f0) == ((rd_T44 l0_4 a1).f0)) = true := beq_iff_eq.mpr c39
            have c39b1 : (((rd_T44 l0_4 (ji32)).f0) != ((rd_T44 l0_4 a1).f0)) = false := bne_eq_false_iff_eq.mpr c39
            clear c39
            have H' := Aside0.mk H
            clear H
            have hnb40 := NB108_110.out
            have hnc40 := NB110_108.out
            have hcz41_0 := bc0 BK108
            have hcz41_1 := bc1 BK108
            have hcz41_2 := bc2 BK108
            have hcz41_3 := bc3 BK108
            have hcz41_4 := bc4 BK108
            have hcz41_5 := bc5 BK108
            have hfz41_0 := blk_frozen BK108.out 0
            have hfz41_1 := blk_frozen BK108.out 1
            have hfz41_2 := blk_frozen BK108.out 2
            have hfz41_3 := blk_frozen BK108.out 3
            have hfz41_4 := blk_frozen BK108.out 4
            have hfz41_5 := blk_frozen BK108.out 5
            have p114 : 0 ≤ ((ji32) : Int) := of_decide_eq_true (by assumption)
            have q114 : (ji32) < (l0_4.length : Int) := of_decide_eq_true (by assumption)
            obtain ⟨ad114, e114, hx114_0, hx114_1, hx114_2⟩ := at_T44 HR0_4.out (ji32) p114 q114
            obtain rfl : ad109 = ad114 := (by injection e114)
            replace hx114_0 := (HB.out.cell (World.block_lt_of_cell? w _ hx114_0)).trans hx114_0
            replace hx114_1 := (HB.out.cell (World.block_lt_of_cell? w _ hx114_1)).trans hx114_1
            replace hx114_2 := (HB.out.cell (World.block_lt_of_cell? w _ hx114_2)).trans hx114_2
            replace p114 := eq_true p114
            replace q114 := eq_true q114
            have hcz42_0 := bc0 BK110
            have hcz42_1 := bc1 BK110
            have hcz42_2 := bc2 BK110
            have hfz42_0 := blk_frozen BK110.out 0
            have hfz42_1 := blk_frozen BK110.out 1
            have hfz42_2 := blk_frozen BK110.out 2
            have p115 : 0 ≤ ((ji32) : Int) := of_decide_eq_true (by assumption)
            have q115 : (ji32) < (l0_4.length : Int) := of_decide_eq_true (by assumption)
            obtain ⟨ad115, e115, hx115_0, hx115_1, hx115_2⟩ := at_T44 HR0_4.out (ji32) p115 q115
            obtain rfl : ad109 = ad115 := (by injection e115)
            replace hx115_0 := (HB.out.cell (World.block_lt_of_cell? w _ hx115_0)).trans hx115_0
            replace hx115_1 := (HB.out.cell (World.block_lt_of_cell? w _ hx115_1)).trans hx115_1
            replace hx115_2 := (HB.out.cell (World.block_lt_of_cell? w _ hx115_2)).trans hx115_2
            replace p115 := eq_true p115
            replace q115 := eq_true q115
            have p116 : 0 ≤ ((ji32) : Int) := of_decide_eq_true (by assumption)
            have q116 : (ji32) < (l0_4.length : Int) := of_decide_eq_true (by assumption)
            obtain ⟨ad116, e116, hx116_0, hx116_1, hx116_2⟩ := at_T44 HR0_4.out (ji32) p116 q116
            obtain rfl : ad109 = ad116 := (by injection e116)
            replace hx116_0 := (HB.out.cell (World.block_lt_of_cell? w _ hx116_0)).trans hx116_0
            replace hx116_1 := (HB.out.cell (World.block_lt_of_cell? w _ hx116_1)).trans hx116_1
            replace hx116_2 := (HB.out.cell (World.block_lt_of_cell? w _ hx116_2)).trans hx116_2
            replace p116 := eq_true p116
            replace q116 := eq_true q116
            go_wp2
            repeat (go_quiet (fail); try go_wp2)
            go_meet
            case rel => exact ⟨_, (decide (((rd_T44 l0_4 (ji32)).f1) ≥ ((rd_T44 l0_4 a1).f1))), (by first | rfl | (simp; done) | (simp only [← hji32] <;> (first | rfl | simp)) | (simp [*]; done)), H', ⟨by have := HJ4.out; first | omega | exact Nat.le_refl _⟩, ⟨bj_ BK108⟩, ⟨bj_ BK110⟩, ⟨hb_⟩⟩
           ·
            rw [if_neg c39] at H
            have c39b0 : (((rd_T44 l0_4 (ji32)).f0) == ((rd_T44 l0_4 a1).f0)) = false := beq_eq_false_iff_ne.mpr c39
            have c39b1 : (((rd_T44 l0_4 (ji32)).f0) != ((rd_T44 l0_4 a1).f0)) = true := bne_iff_ne.mpr c39
            have H' := Aside0.mk H
            clear H
            have hnb43 := NB108_110.out
            have hnc43 := NB110_108.out
            have hcz44_0 := bc0 BK108
            have hcz44_1 := bc1 BK108
            have hcz44_2 := bc2 BK108
            have hcz44_3 := bc3 BK108
            have hcz44_4 := bc4 BK108
            have hcz44_5 := bc5 BK108
            have hfz44_0 := blk_frozen BK108.out 0
            have hfz44_1 := blk_frozen BK108.out 1
            have hfz44_2 := blk_frozen BK108.out 2
            have hfz44_3 := blk_frozen BK108.out 3
            have hfz44_4 := blk_frozen BK108.out 4
            have hfz44_5 := blk_frozen BK108.out 5
            have p114 : 0 ≤ ((ji32) : Int) := of_decide_eq_true (by assumption)
            have q114 : (ji32) < (l0_4.length : Int) := of_decide_eq_true (by assumption)
            obtain ⟨ad114, e114, hx114_0, hx114_1, hx114_2⟩ := at_T44 HR0_4.out (ji32) p114 q114
            obtain rfl : ad109 = ad114 := (by injection e114)
            replace hx114_0 := (HB.out.cell (World.block_lt_of_cell? w _ hx114_0)).trans hx114_0
            replace hx114_1 := (HB.out.cell (World.block_lt_of_cell? w _ hx114_1)).trans hx114_1
            replace hx114_2 := (HB.out.cell (World.block_lt_of_cell? w _ hx114_2)).trans hx114_2
            replace p114 := eq_true p114
            replace q114 := eq_true q114
            have hcz45_0 := bc0 BK110
            have hcz45_1 := bc1 BK110
            have hcz45_2 := bc2 BK110
            have hfz45_0 := blk_frozen BK110.out 0
            have hfz45_1 := blk_frozen BK110.out 1
            have hfz45_2 := blk_frozen BK110.out 2
            have p115 : 0 ≤ ((ji32) : Int) := of_decide_eq_true (by assumption)
            have q115 : (ji32) < (l0_4.length : Int) := of_decide_eq_true (by assumption)
            obtain ⟨ad115, e115, hx115_0, hx115_1, hx115_2⟩ := at_T44 HR0_4.out (ji32) p115 q115
            obtain rfl : ad109 = ad115 := (by injection e115)
            replace hx115_0 := (HB.out.cell (World.block_lt_of_cell? w _ hx115_0)).trans hx115_0
            replace hx115_1 := (HB.out.cell (World.block_lt_of_cell? w _ hx115_1)).trans hx115_1
            replace hx115_2 := (HB.out.cell (World.block_lt_of_cell? w _ hx115_2)).trans hx115_2
            replace p115 := eq_true p115
            replace q115 := eq_true q115
            go_wp2
            repeat (go_quiet (fail); try go_wp2)
            go_meet
            case rel => exact ⟨_, (false), rl_, H', ⟨by have := HJ4.out; first | omega | exact Nat.le_refl _⟩, ⟨bj_ BK108⟩, ⟨bj_ BK110⟩, ⟨hb_⟩⟩
         ·
          rw [if_neg c34] at H
          exact absurd H (by simp)
        ·
         rw [if_neg c33] at H
         exact absurd H (by simp)
       ·
        rw [if_neg c31] at H
        have c31b0 : decide (0 < a1) = false := decide_eq_false c31
        clear c31
        (first | rw [c31b0] | (simp only [i64_w, i32_w]; rw [c31b0]) | skip)
        have H' := Aside0.mk H
        clear H
        go_wp2
        repeat (go_quiet (fail); try go_wp2)
        go_meet
        case rel => exact ⟨_, (false), rl_, H', ⟨by have := HJ4.out; first | omega | exact Nat.le_refl _⟩, ⟨bj_ BK108⟩, ⟨bj_ BK110⟩, ⟨hb_⟩⟩
      case rest =>
       clear HC30
       try clear c1; try clear p1; try clear q1; try clear hx1; try clear c2; try clear p2; try clear c3; try clear c3b0; try clear c4; try clear c4b0; try clear c6; try clear p6; try clear c9; try clear p10; try clear q10; try clear hx10; try clear p11; try clear q11; try clear hx11; try clear c12; try clear c14; try clear c15; try clear c15b0; try clear c15b1; try clear c16; try clear c20; try clear c23; try clear c26; try clear c29; try clear c31; try clear c31b0; try clear c33; try clear c33b0; try clear c34; try clear c34b0; try clear c35; try clear c35b0; try clear c36; try clear c39; try clear c39b0; try clear c39b1; try clear c40; try clear c43; try clear hcz10_0; try clear hcz10_1; try clear hcz10_2; try clear hcz17_0; try clear hcz17_1; try clear hcz17_2; try clear hcz18_0; try clear hcz18_1; try clear hcz18_2; try clear hcz18_3; try clear hcz18_4; try clear hcz18_5; try clear hcz21_0; try clear hcz21_1; try clear hcz21_2; try clear hcz22_0; try clear hcz22_1; try clear hcz22_2; try clear hcz22_3; try clear hcz22_4; try clear hcz22_5; try clear hcz24_0; try clear hcz24_1; try clear hcz24_2; try clear hcz25_0; try clear hcz25_1; try clear hcz25_2; try clear hcz25_3; try clear hcz25_4; try clear hcz25_5; try clear hcz27_0; try clear hcz27_1; try clear hcz27_2; try clear hcz28_0; try clear hcz28_1; try clear hcz28_2; try clear hcz28_3; try clear hcz28_4; try clear hcz28_5; try clear hcz37_0; try clear hcz37_1; try clear hcz37_2; try clear hcz37_3; try clear hcz37_4; try clear hcz37_5; try clear hcz38_0; try clear hcz38_1; try clear hcz38_2; try clear hcz41_0; try clear hcz41_1; try clear hcz41_2; try clear hcz41_3; try clear hcz41_4; try clear hcz41_5; try clear hcz42_0; try clear hcz42_1; try clear hcz42_2; try clear hcz44_0; try clear hcz44_1; try clear hcz44_2; try clear hcz44_3; try clear hcz44_4; try clear hcz44_5; try clear hcz45_0; try clear hcz45_1; try clear hcz45_2; try clear hcz7_0; try clear hcz7_1; try clear hcz7_2; try clear hcz7_3; try clear hcz7_4; try clear hcz7_5; try clear hfz10_0; try clear hfz10_1; try clear hfz10_2; try clear hfz17_0; try clear hfz17_1; try clear hfz17_2; try clear hfz18_0; try clear hfz18_1; try clear hfz18_2; try clear hfz18_3; try clear hfz18_4; try clear hfz18_5; try clear hfz21_0; try clear hfz21_1; try clear hfz21_2; try clear hfz22_0; try clear hfz22_1; try clear hfz22_2; try clear hfz22_3; try clear hfz22_4; try clear hfz22_5; try clear hfz24_0; try clear hfz24_1; try clear hfz24_2; try clear hfz25_0; try clear hfz25_1; try clear hfz25_2; try clear hfz25_3; try clear hfz25_4; try clear hfz25_5; try clear hfz27_0; try clear hfz27_1; try clear hfz27_2; try clear hfz28_0; try clear hfz28_1; try clear hfz28_2; try clear hfz28_3; try clear hfz28_4; try clear hfz28_5; try clear hfz37_0; try clear hfz37_1; try clear hfz37_2; try clear hfz37_3; try clear hfz37_4; try clear hfz37_5; try clear hfz38_0; try clear hfz38_1; try clear hfz38_2; try clear hfz41_0; try clear hfz41_1; try clear hfz41_2; try clear hfz41_3
       try clear hfz41_4; try clear hfz41_5; try clear hfz42_0; try clear hfz42_1; try clear hfz42_2; try clear hfz44_0; try clear hfz44_1; try clear hfz44_2; try clear hfz44_3; try clear hfz44_4; try clear hfz44_5; try clear hfz45_0; try clear hfz45_1; try clear hfz45_2; try clear hfz7_0; try clear hfz7_1; try clear hfz7_2; try clear hfz7_3; try clear hfz7_4; try clear hfz7_5; try clear hx109_0; try clear hx109_1; try clear hx109_2; try clear hx114_0; try clear hx114_1; try clear hx114_2; try clear hx115_0; try clear hx115_1; try clear hx115_2; try clear hx116_0; try clear hx116_1; try clear hx116_2; try clear p1; try clear p10; try clear p109; try clear p114; try clear p115; try clear p116; try clear p2; try clear p6; try clear q1; try clear q10; try clear q109; try clear q114; try clear q115; try clear q116
       (repeat clear BK108); (repeat clear BK110); (repeat clear HB)
       obtain ⟨kq, x77_29, rfl, HA, HJ29, BK108, BK110, HB⟩ := hcut
       cases kq with
       | zero => exact absurd HA.out (by simp [hopmeshref31_link.j1])
       | succ kj29 =>
        have H := HA.out
        clear HA
        simp only [hopmeshref31_link.j1] at H
        by_cases c46 : x77_29 = true
        ·
         subst c46
         have H1 : (some 5) = some r := by rw [if_pos rfl] at H; exact H
         clear H
         have H := H1
         clear H1
         obtain rfl := Option.some.inj H
         go_wp2
         repeat (go_quiet (fail); try go_wp2)
         go_ret
         exact ⟨er_, hb_⟩
        ·
         replace c46 := Bool.eq_false_iff.mpr c46
         subst c46
         have H1 : (if 0 ≤ a1 then (if a1 < (l0_5.length : Int) then (if 0 ≤ ((rd_T44 l0_4 a1).f0) then (if ((rd_T44 l0_4 a1).f0) < (l0_1.length : Int) then (if 0 ≤ ((rd_T44 l0_4 a1).f1) then (if ((rd_T44 l0_4 a1).f1) < ((rd_L1 l0_1 ((rd_T44 l0_4 a1).f0)).length : Int) then ((hopmeshref31_in.f (rd l0_5 a1) 0 (rd (rd_L1 l0_1 ((rd_T44 l0_4 a1).f0)) ((rd_T44 l0_4 a1).f1))).bind fun t120 => (if t120 = true then (some 0) else (some 2))) else (none)) else (none)) else (none)) else (none)) else (none)) else (none)) = some r := by rw [if_neg (show ¬ (false = true) by decide)] at H; exact H
         clear H
         have H := H1
         clear H1
         by_cases c47 : 0 ≤ a1
         ·
          rw [if_pos c47] at H
          have c47b0 : decide (0 ≤ a1) = true := decide_eq_true c47
          clear c47
          by_cases c48 : a1 < (l0_5.length : Int)
          ·
           rw [if_pos c48] at H
           have c48b0 : decide (a1 < (l0_5.length : Int)) = true := decide_eq_true c48
           clear c48
           by_cases c49 : 0 ≤ ((rd_T44 l0_4 a1).f0)
           ·
            rw [if_pos c49] at H
            have c49b0 : decide (0 ≤ ((rd_T44 l0_4 a1).f0)) = true := decide_eq_true c49
            clear c49
            by_cases c50 : ((rd_T44 l0_4 a1).f0) < (l0_1.length : Int)
            ·
             rw [if_pos c50] at H
             have c50b0 : decide (((rd_T44 l0_4 a1).f0) < (l0_1.length : Int)) = true := decide_eq_true c50
             clear c50
             by_cases c51 : 0 ≤ ((rd_T44 l0_4 a1).f1)
             ·
              rw [if_pos c51] at H
              have c51b0 : decide (0 ≤ ((rd_T44 l0_4 a1).f1)) = true := decide_eq_true c51
              clear c51
              by_cases c52 : ((rd_T44 l0_4 a1).f1) < ((rd_L1 l0_1 ((rd_T44 l0_4 a1).f0)).length : Int)
              ·
               rw [if_pos c52] at H
               have c52b0 : decide (((rd_T44 l0_4 a1).f1) < ((rd_L1 l0_1 ((rd_T44 l0_4 a1).f0)).length : Int)) = true := decide_eq_true c52
               clear c52
               replace H := Option.bind_eq_some_iff.mp H
               obtain ⟨t120, A530, H⟩ := H
               replace H : (if t120 = true then (some 0) else (some 2)) = some r := H
               have A53 := Aside0.mk A530
               clear A530
               by_cases c54 : t120 = true
               ·
                subst c54
                have H1 : (some 0) = some r := by rw [if_pos rfl] at H; exact H
                clear H
                have H := H1
                clear H1
                obtain rfl := Option.some.inj H
                have hnb55 := NB108_110.out
                have hnc55 := NB110_108.out
                have hcz56_0 := bc0 BK108
                have hcz56_1 := bc1 BK108
                have hcz56_2 := bc2 BK108
                have hcz56_3 := bc3 BK108
                have hcz56_4 := bc4 BK108
                have hcz56_5 := bc5 BK108
                have hfz56_0 := blk_frozen BK108.out 0
                have hfz56_1 := blk_frozen BK108.out 1
                have hfz56_2 := blk_frozen BK108.out 2
                have hfz56_3 := blk_frozen BK108.out 3
                have hfz56_4 := blk_frozen BK108.out 4
                have hfz56_5 := blk_frozen BK108.out 5
                have p117 : 0 ≤ (a1 : Int) := of_decide_eq_true (by assumption)
                have q117 : a1 < (l0_5.length : Int) := of_decide_eq_true (by assumption)
                obtain ⟨ad117, e117, hx117_0⟩ := Kd.at_int HR0_5.out a1 p117 q117
                cases e117
                replace hx117_0 := (HB.out.cell (World.block_lt_of_cell? w _ hx117_0)).trans hx117_0
                replace p117 := eq_true p117
                replace q117 := eq_true q117
                have hcz57_0 := bc0 BK110
                have hcz57_1 := bc1 BK110
                have hcz57_2 := bc2 BK110
                have hfz57_0 := blk_frozen BK110.out 0
                have hfz57_1 := blk_frozen BK110.out 1
                have hfz57_2 := blk_frozen BK110.out 2
                have p118 : 0 ≤ (((rd_T44 l0_4 a1).f0) : Int) := of_decide_eq_true (by assumption)
                have q118 : ((rd_T44 l0_4 a1).f0) < (l0_1.length : Int) := of_decide_eq_true (by assumption)
                obtain ⟨ad118, A118_0, c118_0, e118, hx118_0, hl118_0, hi118_0⟩ := at_L1 HR0_1.out ((rd_T44 l0_4 a1).f0) p118 q118
                cases e118
                replace hx118_0 := (HB.out.cell (World.block_lt_of_cell? w _ hx118_0)).trans hx118_0
                have HR118_0 := Aside0.mk hi118_0
                have HC118_0 := Aside0.mk hl118_0
                clear hi118_0 hl118_0
                replace p118 := eq_true p118
                replace q118 := eq_true q118
                have p119 : 0 ≤ (((rd_T44 l0_4 a1).f1) : Int) := of_decide_eq_true (by assumption)
                have q119 : ((rd_T44 l0_4 a1).f1) < ((rd_L1 l0_1 ((rd_T44 l0_4 a1).f0)).length : Int) := of_decide_eq_true (by assumption)
                obtain ⟨ad119, e119, hx119_0⟩ := Kd.at_int HR118_0.out ((rd_T44 l0_4 a1).f1) p119 q119
                cases e119
                replace hx119_0 := (HB.out.cell (World.block_lt_of_cell? w _ hx119_0)).trans hx119_0
                replace p119 := eq_true p119
                replace q119 := eq_true q119
                go_wp2_with (first | (go_at_call 61; (with_reducible refine (hopmeshref31_in.calls (rd l0_5 a1) 0 (rd (rd_L1 l0_1 ((rd_T44 l0_4 a1).f0)) ((rd_T44 l0_4 a1).f1)) true _ A53.out).mono ?_); rintro e w' ⟨rfl, ⟨nd, rfl⟩⟩; (try first | exact ⟨rfl, _, World.drewN_drewN _ _ _⟩ | exact ⟨rfl, _, Eq.trans (World.drewN_drewN _ _ _) (congrArg (World.drewN _) (Nat.add_assoc _ _ _))⟩)))
                repeat (go_quiet (first | (go_at_call 61; (with_reducible refine (hopmeshref31_in.calls (rd l0_5 a1) 0 (rd (rd_L1 l0_1 ((rd_T44 l0_4 a1).f0)) ((rd_T44 l0_4 a1).f1)) true _ A53.out).mono ?_); rintro e w' ⟨rfl, ⟨nd, rfl⟩⟩; (try first | exact ⟨rfl, _, World.drewN_drewN _ _ _⟩ | exact ⟨rfl, _, Eq.trans (World.drewN_drewN _ _ _) (congrArg (World.drewN _) (Nat.add_assoc _ _ _))⟩))); try go_wp2_with (first | (go_at_call 61; (with_reducible refine (hopmeshref31_in.calls (rd l0_5 a1) 0 (rd (rd_L1 l0_1 ((rd_T44 l0_4 a1).f0)) ((rd_T44 l0_4 a1).f1)) true _ A53.out).mono ?_); rintro e w' ⟨rfl, ⟨nd, rfl⟩⟩; (try first | exact ⟨rfl, _, World.drewN_drewN _ _ _⟩ | exact ⟨rfl, _, Eq.trans (World.drewN_drewN _ _ _) (congrArg (World.drewN _) (Nat.add_assoc _ _ _))⟩))))
                go_ret
                exact ⟨er_, hb_⟩
               ·
                replace c54 := Bool.eq_false_iff.mpr c54
                subst c54
                have H1 : (some 2) = some r := by rw [if_neg (show ¬ (false = true) by decide)] at H; exact H
                clear H
                have H := H1
                clear H1
                obtain rfl := Option.some.inj H
                have hnb58 := NB108_110.out
                have hnc58 := NB110_108.out
                have hcz59_0 := bc0 BK108
                have hcz59_1 := bc1 BK108
                have hcz59_2 := bc2 BK108
                have hcz59_3 := bc3 BK108
                have hcz59_4 := bc4 BK108
                have hcz59_5 := bc5 BK108
                have hfz59_0 := blk_frozen BK108.out 0
                have hfz59_1 := blk_frozen BK108.out 1
                have hfz59_2 := blk_frozen BK108.out 2
                have hfz59_3 := blk_frozen BK108.out 3
                have hfz59_4 := blk_frozen BK108.out 4
                have hfz59_5 := blk_frozen BK108.out 5
                have p117 : 0 ≤ (a1 : Int) := of_decide_eq_true (by assumption)
                have q117 : a1 < (l0_5.length : Int) := of_decide_eq_true (by assumption)
                obtain ⟨ad117, e117, hx117_0⟩ := Kd.at_int HR0_5.out a1 p117 q117
                cases e117
                replace hx117_0 := (HB.out.cell (World.block_lt_of_cell? w _ hx117_0)).trans hx117_0
                replace p117 := eq_true p117
                replace q117 := eq_true q117
                have hcz60_0 := bc0 BK110
                have hcz60_1 := bc1 BK110
                have hcz60_2 := bc2 BK110
                have hfz60_0 := blk_frozen BK110.out 0
                have hfz60_1 := blk_frozen BK110.out 1
                have hfz60_2 := blk_frozen BK110.out 2
                have p118 : 0 ≤ (((rd_T44 l0_4 a1).f0) : Int) := of_decide_eq_true (by assumption)
                have q118 : ((rd_T44 l0_4 a1).f0) < (l0_1.length : Int) := of_decide_eq_true (by assumption)
                obtain ⟨ad118, A118_0, c118_0, e118, hx118_0, hl118_0, hi118_0⟩ := at_L1 HR0_1.out ((rd_T44 l0_4 a1).f0) p118 q118
                cases e118
                replace hx118_0 := (HB.out.cell (World.block_lt_of_cell? w _ hx118_0)).trans hx118_0
                have HR118_0 := Aside0.mk hi118_0
                have HC118_0 := Aside0.mk hl118_0
                clear hi118_0 hl118_0
                replace p118 := eq_true p118
                replace q118 := eq_true q118
                have p119 : 0 ≤ (((rd_T44 l0_4 a1).f1) : Int) := of_decide_eq_true (by assumption)
                have q119 : ((rd_T44 l0_4 a1).f1) < ((rd_L1 l0_1 ((rd_T44 l0_4 a1).f0)).length : Int) := of_decide_eq_true (by assumption)
                obtain ⟨ad119, e119, hx119_0⟩ := Kd.at_int HR118_0.out ((rd_T44 l0_4 a1).f1) p119 q119
                cases e119
                replace hx119_0 := (HB.out.cell (World.block_lt_of_cell? w _ hx119_0)).trans hx119_0
                replace p119 := eq_true p119
                replace q119 := eq_true q119
                go_wp2_with (first | (go_at_call 61; (with_reducible refine (hopmeshref31_in.calls (rd l0_5 a1) 0 (rd (rd_L1 l0_1 ((rd_T44 l0_4 a1).f0)) ((rd_T44 l0_4 a1).f1)) false _ A53.out).mono ?_); rintro e w' ⟨rfl, ⟨nd, rfl⟩⟩; (try first | exact ⟨rfl, _, World.drewN_drewN _ _ _⟩ | exact ⟨rfl, _, Eq.trans (World.drewN_drewN _ _ _) (congrArg (World.drewN _) (Nat.add_assoc _ _ _))⟩)))
                repeat (go_quiet (first | (go_at_call 61; (with_reducible refine (hopmeshref31_in.calls (rd l0_5 a1) 0 (rd (rd_L1 l0_1 ((rd_T44 l0_4 a1).f0)) ((rd_T44 l0_4 a1).f1)) false _ A53.out).mono ?_); rintro e w' ⟨rfl, ⟨nd, rfl⟩⟩; (try first | exact ⟨rfl, _, World.drewN_drewN _ _ _⟩ | exact ⟨rfl, _, Eq.trans (World.drewN_drewN _ _ _) (congrArg (World.drewN _) (Nat.add_assoc _ _ _))⟩))); try go_wp2_with (first | (go_at_call 61; (with_reducible refine (hopmeshref31_in.calls (rd l0_5 a1) 0 (rd (rd_L1 l0_1 ((rd_T44 l0_4 a1).f0)) ((rd_T44 l0_4 a1).f1)) false _ A53.out).mono ?_); rintro e w' ⟨rfl, ⟨nd, rfl⟩⟩; (try first | exact ⟨rfl, _, World.drewN_drewN _ _ _⟩ | exact ⟨rfl, _, Eq.trans (World.drewN_drewN _ _ _) (congrArg (World.drewN _) (Nat.add_assoc _ _ _))⟩))))
                go_ret
                exact ⟨er_, hb_⟩
              ·
               rw [if_neg c52] at H
               exact absurd H (by simp)
             ·
              rw [if_neg c51] at H
              exact absurd H (by simp)
            ·
             rw [if_neg c50] at H
             exact absurd H (by simp)
           ·
            rw [if_neg c49] at H
            exact absurd H (by simp)
          ·
           rw [if_neg c48] at H
           exact absurd H (by simp)
         ·
          rw [if_neg c47] at H
          exact absurd H (by simp)
  ·
   rw [if_neg c4] at H
   exact absurd H (by simp)
 ·
  rw [if_neg c3] at H
  exact absurd H (by simp)

end Go.Proofs.Ytibgcekekmphoaa.P34
