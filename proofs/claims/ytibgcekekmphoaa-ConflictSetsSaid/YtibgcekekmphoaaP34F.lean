-- Written by a program of this session (wip/tools) over the kit's print; Lean checks it.
import Derived.Test.YtibgcekekmphoaaP340
import Derived.Test.YtibgcekekmphoaaP34R
import Derived.Test.YtibgcekekmphoaaP34Fd
namespace Go.Proofs.Ytibgcekekmphoaa.P34
open Go.RowKit Go.Proofs.YtibgcekekmphoaaW.PrintWords Go.Proofs.YtibgcekekmphoaaW.PrintLast Go.Proofs.YtibgcekekmphoaaW.PrintMore
attribute [local go_sem] max2_int min2_int max_two min_two max_three min_three max_four min_four   -- for this text's walks alone
set_option linter.unusedVariables false
set_option linter.unusedSimpArgs false

set_option maxHeartbeats 8000000 in
set_option maxRecDepth 100000 in
theorem hopmeshref34_Fault.calls (k : Nat) (a0_0 : Int) (A0_1 : Option Addr) (c0_1 : Nat) (l0_1 : List (List Int)) (a0_2 : Int) (a0_3 : Int) (A0_4 : Option Addr) (c0_4 : Nat) (l0_4 : List (S44)) (A0_5 : Option Addr) (c0_5 : Nat) (l0_5 : List Int) (A1 : Option Addr) (c1 : Nat) (l1 : List (S36)) (a2 : Int) (r : Bool) (w : World) (hr0_1 : Kd.C (Kd.slice 3 (Kd.int .i64)) w A0_1 l0_1.length l0_1) (hc0_1 : l0_1.length ≤ c0_1) (hr0_4 : Kd.C k44 w A0_4 l0_4.length l0_4) (hc0_4 : l0_4.length ≤ c0_4) (hr0_5 : Kd.C (Kd.int .i64) w A0_5 l0_5.length l0_5) (hc0_5 : l0_5.length ≤ c0_5) (hr1 : Kd.C k36 w A1 l1.length l1) (hc1 : l1.length ≤ c1) (h : hopmeshref34_Fault.f k a0_0 l0_1 a0_2 a0_3 l0_4 l0_5 l1 a2 = some r) :
  Calls Try.prog 48 #[.agg #[.int .i64 a0_0, .slice A0_1 l0_1.length c0_1, .int .i64 a0_2, .int .i64 a0_3, .slice A0_4 l0_4.length c0_4, .slice A0_5 l0_5.length c0_5], .slice A1 l1.length c1, .int .i64 a2] w fun e w' => e = .returned (.bool r) ∧ Below w.heap.size w w' := by
 have hu26 := Try.underlying26
 have hu36 := Try.underlying36
 have HR0_1 := Aside0.mk hr0_1
 have HC0_1 := Aside0.mk hc0_1
 clear hr0_1 hc0_1
 have HR0_4 := Aside0.mk hr0_4
 have HC0_4 := Aside0.mk hc0_4
 clear hr0_4 hc0_4
 have HR0_5 := Aside0.mk hr0_5
 have HC0_5 := Aside0.mk hc0_5
 clear hr0_5 hc0_5
 have HR1 := Aside0.mk hr1
 have HC1 := Aside0.mk hc1
 clear hr1 hc1
 have HB := Aside0.mk (Below.refl w.heap.size w)
 have H : (if 0 ≤ a2 then (if a2 < (l1.length : Int) then ((hopmeshref31_Good.f k a0_0 l0_1 a0_2 a0_3 l0_4 l0_5 ((rd_T36 l1 a2).f2) ((rd_T36 l1 a2).f3)).bind fun t269 => (if t269 = true then (hopmeshref34_Fault.l0 k l1 a2 0 0 0 a0_0 l0_1 a0_2 a0_3 l0_4 l0_5 ((rd_T36 l1 a2).f0) ((rd_T36 l1 a2).f1) ((rd_T36 l1 a2).f2) ((rd_T36 l1 a2).f3) ((rd_T36 l1 a2).f4)) else (some true))) else (none)) else (none)) = some r := h
 clear h
 by_cases c4 : 0 ≤ a2
 ·
  rw [if_pos c4] at H
  have c4b0 : decide (0 ≤ a2) = true := decide_eq_true c4
  clear c4
  by_cases c5 : a2 < (l1.length : Int)
  ·
   rw [if_pos c5] at H
   have c5b0 : decide (a2 < (l1.length : Int)) = true := decide_eq_true c5
   clear c5
   replace H := Option.bind_eq_some_iff.mp H
   obtain ⟨t269, A60, H⟩ := H
   replace H : (if t269 = true then (hopmeshref34_Fault.l0 k l1 a2 0 0 0 a0_0 l0_1 a0_2 a0_3 l0_4 l0_5 ((rd_T36 l1 a2).f0) ((rd_T36 l1 a2).f1) ((rd_T36 l1 a2).f2) ((rd_T36 l1 a2).f3) ((rd_T36 l1 a2).f4)) else (some true)) = some r := H
   have A6 := Aside0.mk A60
   clear A60
   by_cases c7 : t269 = true
   ·
    subst c7
    have H1 : (hopmeshref34_Fault.l0 k l1 a2 0 0 0 a0_0 l0_1 a0_2 a0_3 l0_4 l0_5 ((rd_T36 l1 a2).f0) ((rd_T36 l1 a2).f1) ((rd_T36 l1 a2).f2) ((rd_T36 l1 a2).f3) ((rd_T36 l1 a2).f4)) = some r := by rw [if_pos rfl] at H; exact H
    clear H
    have H := H1
    clear H1
    have H' := Aside0.mk H
    clear H
    go_enter Try.func48, Try.ntmps48
    go_wp2_with (first | ((with_reducible refine gate_dst (N := 3) rfl ?_); refine bx_ 3 #[.int .i64 a0_0, .slice A0_1 l0_1.length c0_1, .int .i64 a0_2, .int .i64 a0_3, .slice A0_4 l0_4.length c0_4, .slice A0_5 l0_5.length c0_5] 26 ?_; intro gb266 hg w8 hbox hb; have n0_ := Aside0.mk (below_step hb_ hb); have n1_ := Aside0.mk (hbox); have n2_ := Aside0.mk ((by rw [hg]; exact (below_size hb_) : w.heap.size ≤ gb266)); have n3_ := Aside0.mk ((by rw [hg]; exact (below_size hb_) : w.heap.size ≤ gb266)); clear HB; have HB := n0_; have BK266 := n1_; have GW266 := n2_; have GE266 := n3_; clear n0_ n1_ n2_ n3_; clear hb hbox hg; have p267 : 0 ≤ (a2 : Int) := of_decide_eq_true (by assumption); have q267 : a2 < (l1.length : Int) := of_decide_eq_true (by assumption); obtain ⟨ad267, e267, hx267_0, hx267_1, hx267_2, hx267_3, hx267_4⟩ := at_T36 HR1.out a2 p267 q267; cases e267; replace hx267_0 := (HB.out.cell (World.block_lt_of_cell? w _ hx267_0)).trans hx267_0; replace hx267_1 := (HB.out.cell (World.block_lt_of_cell? w _ hx267_1)).trans hx267_1; replace hx267_2 := (HB.out.cell (World.block_lt_of_cell? w _ hx267_2)).trans hx267_2; replace hx267_3 := (HB.out.cell (World.block_lt_of_cell? w _ hx267_3)).trans hx267_3; replace hx267_4 := (HB.out.cell (World.block_lt_of_cell? w _ hx267_4)).trans hx267_4; replace p267 := eq_true p267; replace q267 := eq_true q267) | ((with_reducible refine gate_dst (N := 7) rfl ?_); refine bx_ 7 #[.int .i64 0, .int .i64 0, .int .i64 0, .int .i64 0, .int .i64 0] 36 ?_; intro gb268 hg w9 hbox hb; have n0_ := bk_ BK266 hb; have n1_ := Aside0.mk (below_step hb_ hb); have n2_ := Aside0.mk (hbox); have n3_ := Aside0.mk ((by rw [hg]; exact (below_size hb_) : w.heap.size ≤ gb268)); have n4_ := Aside0.mk ((by rw [hg]; exact (below_size hb_) : w.heap.size ≤ gb268)); have n5_ := Aside0.mk ((by rw [hg]; exact Nat.ne_of_lt (blk_lt (bj_ BK266)) : gb266 ≠ gb268)); have n6_ := Aside0.mk ((by rw [hg]; exact Nat.ne_of_gt (blk_lt (bj_ BK266)) : gb268 ≠ gb266)); clear BK266; clear HB; have BK266 := n0_; have HB := n1_; have BK268 := n2_; have GW268 := n3_; have GE268 := n4_; have NB266_268 := n5_; have NB268_266 := n6_; clear n0_ n1_ n2_ n3_ n4_ n5_ n6_; clear hb hbox hg; have hnb10 := NB268_266.out; have hnc10 := NB266_268.out; have hcz11_0 := bc0 BK268; have hcz11_1 := bc1 BK268; have hcz11_2 := bc2 BK268; have hcz11_3 := bc3 BK268; have hcz11_4 := bc4 BK268; have hfz11_0 := blk_frozen BK268.out 0; have hfz11_1 := blk_frozen BK268.out 1; have hfz11_2 := blk_frozen BK268.out 2; have hfz11_3 := blk_frozen BK268.out 3; have hfz11_4 := blk_frozen BK268.out 4; have hcz12_0 := bc0 BK266; have hcz12_1 := bc1 BK266; have hcz12_2 := bc2 BK266; have hcz12_3 := bc3 BK266; have hcz12_4 := bc4 BK266; have hcz12_5 := bc5 BK266; have hfz12_0 := blk_frozen BK266.out 0; have hfz12_1 := blk_frozen BK266.out 1; have hfz12_2 := blk_frozen BK266.out 2; have hfz12_3 := blk_frozen BK266.out 3; have hfz12_4 := blk_frozen BK266.out 4; have hfz12_5 := blk_frozen BK266.out 5) | ((with_reducible refine gate_callee (f := 74) rfl ?_); refine goesL_ (some 20) rfl rfl Try.func74 (by kernel_rfl) rfl #[.agg #[.int .i64 a0_0, .slice A0_1 l0_1.length c0_1, .int .i64 a0_2, .int .i64 a0_3, .slice A0_4 l0_4.length c0_4, .slice A0_5 l0_5.length c0_5], .int .i64 ((rd_T36 l1 a2).f2), .int .i64 ((rd_T36 l1 a2).f3)] rfl am_ ?_; (with_reducible refine (hopmeshref31_Good.calls k a0_0 _ _ l0_1 a0_2 a0_3 _ _ l0_4 _ _ l0_5 ((rd_T36 l1 a2).f2) ((rd_T36 l1 a2).f3) true _ ?side1 ?side2 ?side3 ?side4 ?side5 ?side6 A6.out).mono ?_); (case side1 => exact Kd.C_below HR0_1.out hb_); (case side2 => exact HC0_1.out); (case side3 => exact Kd.C_below HR0_4.out hb_); (case side4 => exact HC0_4.out); (case side5 => exact Kd.C_below HR0_5.out hb_); (case side6 => exact HC0_5.out); rintro e w13 ⟨rfl, hb⟩; refine ⟨_, rfl, ?_⟩; have n0_ := Aside0.mk (blk_below (g := gb266) (o := .cells #[.int .i64 a0_0, .slice A0_1 l0_1.length c0_1, .int .i64 a0_2, .int .i64 a0_3, .slice A0_4 l0_4.length c0_4, .slice A0_5 l0_5.length c0_5] 26 (0, 0)) (by (with_reducible repeat (first | refine blk_drewN ?_ _ | refine blk_drew ?_ | refine blk_alloc ?_ _)); refine blk_far ?_ NB266_268.out _; (with_reducible repeat (first | refine blk_drewN ?_ _ | refine blk_drew ?_ | refine blk_alloc ?_ _)); refine blk_far ?_ NB266_268.out _; (with_reducible repeat (first | refine blk_drewN ?_ _ | refine blk_drew ?_ | refine blk_alloc ?_ _)); refine blk_far ?_ NB266_268.out _; (with_reducible repeat (first | refine blk_drewN ?_ _ | refine blk_drew ?_ | refine blk_alloc ?_ _)); refine blk_far ?_ NB266_268.out _; (with_reducible repeat (first | refine blk_drewN ?_ _ | refine blk_drew ?_ | refine blk_alloc ?_ _)); refine blk_far ?_ NB266_268.out _; (with_reducible repeat (first | refine blk_drewN ?_ _ | refine blk_drew ?_ | refine blk_alloc ?_ _)); exact BK266.out) hb); have n1_ := Aside0.mk (blk_below (g := gb268) (o := .cells #[.int .i64 ((rd_T36 l1 a2).f0), .int .i64 ((rd_T36 l1 a2).f1), .int .i64 ((rd_T36 l1 a2).f2), .int .i64 ((rd_T36 l1 a2).f3), .int .i64 ((rd_T36 l1 a2).f4)] 36 (0, 0)) (by (with_reducible repeat (first | refine blk_drewN ?_ _ | refine blk_drew ?_ | refine blk_alloc ?_ _)); refine blk_put (cs := #[.int .i64 ((rd_T36 l1 a2).f0), .int .i64 ((rd_T36 l1 a2).f1), .int .i64 ((rd_T36 l1 a2).f2), .int .i64 ((rd_T36 l1 a2).f3), .int .i64 0]) ?_ 4 _ rfl; (with_reducible repeat (first | refine blk_drewN ?_ _ | refine blk_drew ?_ | refine blk_alloc ?_ _)); refine blk_put (cs := #[.int .i64 ((rd_T36 l1 a2).f0), .int .i64 ((rd_T36 l1 a2).f1), .int .i64 ((rd_T36 l1 a2).f2), .int .i64 0, .int .i64 0]) ?_ 3 _ rfl; (with_reducible repeat (first | refine blk_drewN ?_ _ | refine blk_drew ?_ | refine blk_alloc ?_ _)); refine blk_put (cs := #[.int .i64 ((rd_T36 l1 a2).f0), .int .i64 ((rd_T36 l1 a2).f1), .int .i64 0, .int .i64 0, .int .i64 0]) ?_ 2 _ rfl; (with_reducible repeat (first | refine blk_drewN ?_ _ | refine blk_drew ?_ | refine blk_alloc ?_ _)); refine blk_put (cs := #[.int .i64 ((rd_T36 l1 a2).f0), .int .i64 0, .int .i64 0, .int .i64 0, .int .i64 0]) ?_ 1 _ rfl; (with_reducible repeat (first | refine blk_drewN ?_ _ | refine blk_drew ?_ | refine blk_alloc ?_ _)); refine blk_put (cs := #[.int .i64 0, .int .i64 0, .int .i64 0, .int .i64 0, .int .i64 0]) ?_ 0 _ rfl; (with_reducible repeat (first | refine blk_drewN ?_ _ | refine blk_drew ?_ | refine blk_alloc ?_ _)); exact BK268.out) hb); have n2_ := Aside0.mk (below_step hb_ hb); clear BK266; clear BK268; clear HB; have BK266 := n0_; have BK268 := n1_; have HB := n2_; clear n0_ n1_ n2_; (try clear hb); (try clear hb2); (try clear hk); (try clear hi)))
    go_loopg [8, 9, 10] k (fun kq v8 v9 v10 w' => ∃ (x8_1 : Int) (x9_1 : Int) (x10_1 : Int), v8 = .int .i64 x8_1 ∧ v9 = .int .i64 x9_1 ∧ v10 = .int .i64 x10_1 ∧ Aside0 (hopmeshref34_Fault.l0 kq l1 a2 x8_1 x9_1 x10_1 a0_0 l0_1 a0_2 a0_3 l0_4 l0_5 ((rd_T36 l1 a2).f0) ((rd_T36 l1 a2).f1) ((rd_T36 l1 a2).f2) ((rd_T36 l1 a2).f3) ((rd_T36 l1 a2).f4) = some r) ∧ Aside0 (kq ≤ k) ∧ Aside0 (w'.heap[gb266]? = some (.cells #[.int .i64 a0_0, (.slice A0_1 l0_1.length c0_1), .int .i64 a0_2, .int .i64 a0_3, (.slice A0_4 l0_4.length c0_4), (.slice A0_5 l0_5.length c0_5)] 26 (0, 0))) ∧ Aside0 (w'.heap[gb268]? = some (.cells #[.int .i64 ((rd_T36 l1 a2).f0), .int .i64 ((rd_T36 l1 a2).f1), .int .i64 ((rd_T36 l1 a2).f2), .int .i64 ((rd_T36 l1 a2).f3), .int .i64 ((rd_T36 l1 a2).f4)] 36 (0, 0))) ∧ Aside0 (Below w.heap.size w w'))
    case atStart => exact ⟨(0), (0), (0), rl_, rl_, rl_, H', ⟨Nat.le_refl _⟩, ⟨bj_ BK266⟩, ⟨bj_ BK268⟩, ⟨hb_⟩⟩
    case round =>
     clear H'
     try clear c1; try clear p2; try clear q2; try clear hx2; try clear c4; try clear c4b0; try clear c5; try clear c5b0; try clear c7; try clear c10; try clear hcz11_0; try clear hcz11_1; try clear hcz11_2; try clear hcz11_3; try clear hcz11_4; try clear hcz12_0; try clear hcz12_1; try clear hcz12_2; try clear hcz12_3; try clear hcz12_4; try clear hcz12_5; try clear hfz11_0; try clear hfz11_1; try clear hfz11_2; try clear hfz11_3; try clear hfz11_4; try clear hfz12_0; try clear hfz12_1; try clear hfz12_2; try clear hfz12_3; try clear hfz12_4; try clear hfz12_5; try clear hx267_0; try clear hx267_1; try clear hx267_2; try clear hx267_3; try clear hx267_4; try clear p267; try clear q267
     (repeat clear BK266); (repeat clear BK268); (repeat clear HB)
     obtain ⟨x8_1, x9_1, x10_1, rfl, rfl, rfl, HA, HK1, BK266, BK268, HB⟩ := hrel
     cases gk with
     | zero => exact absurd HA.out (by simp [hopmeshref34_Fault.l0])
     | succ k1 =>
      have H := HA.out
      clear HA
      simp only [hopmeshref34_Fault.l0] at H
      by_cases c14 : x10_1 < (l1.length : Int)
      ·
       rw [if_pos c14] at H
       have c14b0 : decide (x10_1 < (l1.length : Int)) = true := decide_eq_true c14
       clear c14
       by_cases c15 : x10_1 = a2
       ·
        rw [if_pos c15] at H
        have c15b0 : (x10_1 == a2) = true := beq_iff_eq.mpr c15
        have c15b1 : (x10_1 != a2) = false := bne_eq_false_iff_eq.mpr c15
        clear c15
        have H' := Aside0.mk H
        clear H
        go_wp2
        go_roundg k1
        case measure => have := HK1.out; omega
        case rel => exact ⟨(x8_1), (x9_1), (wrap64 (x10_1 + 1)), rl_, rl_, rl_, H', ⟨by have := HK1.out; omega⟩, ⟨bj_ BK266⟩, ⟨bj_ BK268⟩, ⟨hb_⟩⟩
       ·
        rw [if_neg c15] at H
        have c15b0 : (x10_1 == a2) = false := beq_eq_false_iff_ne.mpr c15
        have c15b1 : (x10_1 != a2) = true := bne_iff_ne.mpr c15
        have HC16 := Aside0.mk H
        clear H
        go_upto_region 9 with (fail)
        go_cut [68] (fun v68 wc => ∃ (kq : Nat) (x68_15 : Bool), v68 = .bool x68_15 ∧ Aside0 (hopmeshref34_Fault.j1 kq l1 a2 x8_1 x9_1 x10_1 x68_15 a0_0 l0_1 a0_2 a0_3 l0_4 l0_5 ((rd_T36 l1 a2).f0) ((rd_T36 l1 a2).f1) ((rd_T36 l1 a2).f2) ((rd_T36 l1 a2).f3) ((rd_T36 l1 a2).f4) = some r) ∧ Aside0 (kq ≤ k1) ∧ Aside0 (wc.heap[gb266]? = some (.cells #[.int .i64 a0_0, (.slice A0_1 l0_1.length c0_1), .int .i64 a0_2, .int .i64 a0_3, (.slice A0_4 l0_4.length c0_4), (.slice A0_5 l0_5.length c0_5)] 26 (0, 0))) ∧ Aside0 (wc.heap[gb268]? = some (.cells #[.int .i64 ((rd_T36 l1 a2).f0), .int .i64 ((rd_T36 l1 a2).f1), .int .i64 ((rd_T36 l1 a2).f2), .int .i64 ((rd_T36 l1 a2).f3), .int .i64 ((rd_T36 l1 a2).f4)] 36 (0, 0))) ∧ Aside0 (Below w.heap.size w wc))
        case first =>
         have H := HC16.out
         clear HC16
         by_cases c17 : 0 ≤ x10_1
         ·
          rw [if_pos c17] at H
          have c17b0 : decide (0 ≤ x10_1) = true := decide_eq_true c17
          clear c17
          (first | rw [c17b0] | (simp only [i64_w, i32_w]; rw [c17b0]) | skip)
          by_cases c18 : ((rd_T36 l1 x10_1).f2) = ((rd_T36 l1 a2).f2)
          ·
           rw [if_pos c18] at H
           have c18b0 : (((rd_T36 l1 x10_1).f2) == ((rd_T36 l1 a2).f2)) = true := beq_iff_eq.mpr c18
           have c18b1 : (((rd_T36 l1 x10_1).f2) != ((rd_T36 l1 a2).f2)) = false := bne_eq_false_iff_eq.mpr c18
           clear c18
           have H' := Aside0.mk H
           clear H
           try go_wp2
           have n0_ := Aside0.mk (blk_drew BK266.out)
           have n1_ := Aside0.mk (blk_drew BK268.out)
           have n2_ := Aside0.mk (below_drew1 HB.out)
           clear BK266
           clear BK268
           clear HB
           have BK266 := n0_
           have BK268 := n1_
           have HB := n2_
           clear n0_ n1_ n2_
           have p270 : 0 ≤ (x10_1 : Int) := of_decide_eq_true (by assumption)
           have q270 : x10_1 < (l1.length : Int) := of_decide_eq_true (by assumption)
           obtain ⟨ad270, e270, hx270_0, hx270_1, hx270_2, hx270_3, hx270_4⟩ := at_T36 HR1.out x10_1 p270 q270
           have hw270_4 := hx270_4
           have hw270_3 := hx270_3
           have hw270_2 := hx270_2
           have hw270_1 := hx270_1
           have hw270_0 := hx270_0
           obtain rfl : ad267 = ad270 := (by injection e270)
           replace hx270_0 := (HB.out.cell (World.block_lt_of_cell? w _ hx270_0)).trans hx270_0
           replace hx270_1 := (HB.out.cell (World.block_lt_of_cell? w _ hx270_1)).trans hx270_1
           replace hx270_2 := (HB.out.cell (World.block_lt_of_cell? w _ hx270_2)).trans hx270_2
           replace hx270_3 := (HB.out.cell (World.block_lt_of_cell? w _ hx270_3)).trans hx270_3
           replace hx270_4 := (HB.out.cell (World.block_lt_of_cell? w _ hx270_4)).trans hx270_4
           replace p270 := eq_true p270
           replace q270 := eq_true q270
           refine start_ (n := 38) (S := fun w' => w'.cell? ⟨gb268, 0, none⟩ = some (.int .i64 ((rd_T36 l1 a2).f0)) ∧ w'.cell? ⟨gb268, 1, none⟩ = some (.int .i64 ((rd_T36 l1 a2).f1)) ∧ w'.cell? ⟨gb268, 2, none⟩ = some (.int .i64 ((rd_T36 l1 a2).f2)) ∧ w'.cell? ⟨gb268, 3, none⟩ = some (.int .i64 ((rd_T36 l1 a2).f3)) ∧ w'.cell? ⟨gb268, 4, none⟩ = some (.int .i64 ((rd_T36 l1 a2).f4)) ∧ w'.cell? (ad267.add ((x10_1).toNat * 5)) = some (.int .i64 ((rd_T36 l1 x10_1).f0)) ∧ w'.cell? ⟨(ad267.add ((x10_1).toNat * 5)).block, (ad267.add ((x10_1).toNat * 5)).off + 1, none⟩ = some (.int .i64 ((rd_T36 l1 x10_1).f1)) ∧ w'.cell? ⟨(ad267.add ((x10_1).toNat * 5)).block, (ad267.add ((x10_1).toNat * 5)).off + 2, none⟩ = some (.int .i64 ((rd_T36 l1 x10_1).f2)) ∧ w'.cell? ⟨(ad267.add ((x10_1).toNat * 5)).block, (ad267.add ((x10_1).toNat * 5)).off + 3, none⟩ = some (.int .i64 ((rd_T36 l1 x10_1).f3)) ∧ w'.cell? ⟨(ad267.add ((x10_1).toNat * 5)).block, (ad267.add ((x10_1).toNat * 5)).off + 4, none⟩ = some (.int .i64 ((rd_T36 l1 x10_1).f4))) (ds := []) #[false, false, false, false, false, false, false, false, false, false, false, false, false, false, false, false, false, false, false, false, false, false, false, false, false, false, false, false, false, false, false, false, false, false, false, false, false, false] (by kernel_rfl) rfl rfl ⟨(blk_cell BK268.out 0).trans rfl, (blk_cell BK268.out 1).trans rfl, (blk_cell BK268.out 2).trans rfl, (blk_cell BK268.out 3).trans rfl, (blk_cell BK268.out 4).trans rfl, ((HB.out.cell (World.block_lt_of_cell? w _ hw270_0)).trans hw270_0), ((HB.out.cell (World.block_lt_of_cell? w _ hw270_1)).trans hw270_1), ((HB.out.cell (World.block_lt_of_cell? w _ hw270_2)).trans hw270_2), ((HB.out.cell (World.block_lt_of_cell? w _ hw270_3)).trans hw270_3), ((HB.out.cell (World.block_lt_of_cell? w _ hw270_4)).trans hw270_4)⟩ (fun hHeld => ?_); refine with_tabW hopmeshref34_Fault.tab9 hopmeshref34_Fault.bits9 (fun HT_ HW_ => ?_)
           generalize wr.drew = w19 at BK266 BK268 HB hx270_0 hx270_1 hx270_2 hx270_3 hx270_4 hHeld ⊢
           refine pu_ HT_ 0 31 (bl 38 1) ?_
           refine pu_ HT_ 1 32 (bl 38 3) ?_
           refine pu_ HT_ 2 33 (bl 38 7) ?_
           refine pu_ HT_ 3 34 (bl 38 15) ?_
           refine pu_ HT_ 5 36 (bl 38 47) ?_
           refine tk_ HT_ HW_ hHeld 4 35 (bl 38 63) ?_
           refine tk_ HT_ HW_ hHeld 6 37 (bl 38 127) ?_
           refine pu_ HT_ 7 38 (bl 38 255) ?_
           refine pu_ HT_ 8 39 (bl 38 511) ?_
           refine of_ HT_ 9 40 (bl 38 1023) ?_
           refine of_ HT_ 10 41 (bl 38 2047) ?_
           refine of_ HT_ 11 42 (bl 38 4095) ?_
           refine of_ HT_ 12 43 (bl 38 8191) ?_
           refine of_ HT_ 13 44 (bl 38 16383) ?_
           refine of_ HT_ 14 45 (bl 38 32767) ?_
           refine of_ HT_ 15 46 (bl 38 65535) ?_
           refine of_ HT_ 16 47 (bl 38 131071) ?_
           refine pu_ HT_ 17 48 (bl 38 262143) ?_
           refine pu_ HT_ 18 49 (bl 38 524287) ?_
           refine of_ HT_ 19 50 (bl 38 1048575) ?_
           refine of_ HT_ 20 51 (bl 38 2097151) ?_
           refine of_ HT_ 21 52 (bl 38 4194303) ?_
           refine of_ HT_ 22 53 (bl 38 8388607) ?_
           refine of_ HT_ 23 54 (bl 38 16777215) ?_
           refine of_ HT_ 24 55 (bl 38 33554431) ?_
           refine of_ HT_ 25 56 (bl 38 67108863) ?_
           refine of_ HT_ 26 57 (bl 38 134217727) ?_
           refine pu_ HT_ 27 58 (bl 38 268435455) ?_
           refine pu_ HT_ 28 59 (bl 38 536870911) ?_
           refine of_ HT_ 29 60 (bl 38 1073741823) ?_
           refine of_ HT_ 30 61 (bl 38 2147483647) ?_
           refine of_ HT_ 31 62 (bl 38 4294967295) ?_
           refine of_ HT_ 32 63 (bl 38 8589934591) ?_
           refine of_ HT_ 33 64 (bl 38 17179869183) ?_
           refine of_ HT_ 34 65 (bl 38 34359738367) ?_
           refine of_ HT_ 35 66 (bl 38 68719476735) ?_
           refine of_ HT_ 36 67 (bl 38 137438953471) ?_
           refine pu_ HT_ 37 68 (bl 38 274877906943) ?_
           refine done_ (done_of HT_.out (by kernel_rfl)) ?_
           try go_wp2
           go_meet
           case rel => exact ⟨_, (true), rl_, H', ⟨by have := HK1.out; first | omega | exact Nat.le_refl _⟩, ⟨bj_ BK266⟩, ⟨bj_ BK268⟩, ⟨hb_⟩⟩
          ·
           rw [if_neg c18] at H
           have c18b0 : (((rd_T36 l1 x10_1).f2) == ((rd_T36 l1 a2).f2)) = false := beq_eq_false_iff_ne.mpr c18
           have c18b1 : (((rd_T36 l1 x10_1).f2) != ((rd_T36 l1 a2).f2)) = true := bne_iff_ne.mpr c18
           by_cases c20 : ((rd_T36 l1 x10_1).f2) = ((rd_T36 l1 a2).f3)
           ·
            rw [if_pos c20] at H
            have c20b0 : (((rd_T36 l1 x10_1).f2) == ((rd_T36 l1 a2).f3)) = true := beq_iff_eq.mpr c20
            have c20b1 : (((rd_T36 l1 x10_1).f2) != ((rd_T36 l1 a2).f3)) = false := bne_eq_false_iff_eq.mpr c20
            clear c20
            have H' := Aside0.mk H
            clear H
            try go_wp2
            have n0_ := Aside0.mk (blk_drew BK266.out)
            have n1_ := Aside0.mk (blk_drew BK268.out)
            have n2_ := Aside0.mk (below_drew1 HB.out)
            clear BK266
            clear BK268
            clear HB
            have BK266 := n0_
            have BK268 := n1_
            have HB := n2_
            clear n0_ n1_ n2_
            have p270 : 0 ≤ (x10_1 : Int) := of_decide_eq_true (by assumption)
            have q270 : x10_1 < (l1.length : Int) := of_decide_eq_true (by assumption)
            obtain ⟨ad270, e270, hx270_0, hx270_1, hx270_2, hx270_3, hx270_4⟩ := at_T36 HR1.out x10_1 p270 q270
            have hw270_4 := hx270_4
            have hw270_3 := hx270_3
            have hw270_2 := hx270_2
            have hw270_1 := hx270_1
            have hw270_0 := hx270_0
            obtain rfl : ad267 = ad270 := (by injection e270)
            replace hx270_0 := (HB.out.cell (World.block_lt_of_cell? w _ hx270_0)).trans hx270_0
            replace hx270_1 := (HB.out.cell (World.block_lt_of_cell? w _ hx270_1)).trans hx270_1
            replace hx270_2 := (HB.out.cell (World.block_lt_of_cell? w _ hx270_2)).trans hx270_2
            replace hx270_3 := (HB.out.cell (World.block_lt_of_cell? w _ hx270_3)).trans hx270_3
            replace hx270_4 := (HB.out.cell (World.block_lt_of_cell? w _ hx270_4)).trans hx270_4
            replace p270 := eq_true p270
            replace q270 := eq_true q270
            have p271 : 0 ≤ (x10_1 : Int) := of_decide_eq_true (by assumption)
            have q271 : x10_1 < (l1.length : Int) := of_decide_eq_true (by assumption)
            obtain ⟨ad271, e271, hx271_0, hx271_1, hx271_2, hx271_3, hx271_4⟩ := at_T36 HR1.out x10_1 p271 q271
            have hw271_4 := hx271_4
            have hw271_3 := hx271_3
            have hw271_2 := hx271_2
            have hw271_1 := hx271_1
            have hw271_0 := hx271_0
            obtain rfl : ad267 = ad271 := (by injection e271)
            replace hx271_0 := (HB.out.cell (World.block_lt_of_cell? w _ hx271_0)).trans hx271_0
            replace hx271_1 := (HB.out.cell (World.block_lt_of_cell? w _ hx271_1)).trans hx271_1
            replace hx271_2 := (HB.out.cell (World.block_lt_of_cell? w _ hx271_2)).trans hx271_2
            replace hx271_3 := (HB.out.cell (World.block_lt_of_cell? w _ hx271_3)).trans hx271_3
            replace hx271_4 := (HB.out.cell (World.block_lt_of_cell? w _ hx271_4)).trans hx271_4
            replace p271 := eq_true p271
            replace q271 := eq_true q271
            refine start_ (n := 38) (S := fun w' => w'.cell? ⟨gb268, 0, none⟩ = some (.int .i64 ((rd_T36 l1 a2).f0)) ∧ w'.cell? ⟨gb268, 1, none⟩ = some (.int .i64 ((rd_T36 l1 a2).f1)) ∧ w'.cell? ⟨gb268, 2, none⟩ = some (.int .i64 ((rd_T36 l1 a2).f2)) ∧ w'.cell? ⟨gb268, 3, none⟩ = some (.int .i64 ((rd_T36 l1 a2).f3)) ∧ w'.cell? ⟨gb268, 4, none⟩ = some (.int .i64 ((rd_T36 l1 a2).f4)) ∧ w'.cell? (ad267.add ((x10_1).toNat * 5)) = some (.int .i64 ((rd_T36 l1 x10_1).f0)) ∧ w'.cell? ⟨(ad267.add ((x10_1).toNat * 5)).block, (ad267.add ((x10_1).toNat * 5)).off + 1, none⟩ = some (.int .i64 ((rd_T36 l1 x10_1).f1)) ∧ w'.cell? ⟨(ad267.add ((x10_1).toNat * 5)).block, (ad267.add ((x10_1).toNat * 5)).off + 2, none⟩ = some (.int .i64 ((rd_T36 l1 x10_1).f2)) ∧ w'.cell? ⟨(ad267.add ((x10_1).toNat * 5)).block, (ad267.add ((x10_1).toNat * 5)).off + 3, none⟩ = some (.int .i64 ((rd_T36 l1 x10_1).f3)) ∧ w'.cell? ⟨(ad267.add ((x10_1).toNat * 5)).block, (ad267.add ((x10_1).toNat * 5)).off + 4, none⟩ = some (.int .i64 ((rd_T36 l1 x10_1).f4)) ∧ w'.cell? (ad267.add ((x10_1).toNat * 5)) = some (.int .i64 ((rd_T36 l1 x10_1).f0)) ∧ w'.cell? ⟨(ad267.add ((x10_1).toNat * 5)).block, (ad267.add ((x10_1).toNat * 5)).off + 1, none⟩ = some (.int .i64 ((rd_T36 l1 x10_1).f1)) ∧ w'.cell? ⟨(ad267.add ((x10_1).toNat * 5)).block, (ad267.add ((x10_1).toNat * 5)).off + 2, none⟩ = some (.int .i64 ((rd_T36 l1 x10_1).f2)) ∧ w'.cell? ⟨(ad267.add ((x10_1).toNat * 5)).block, (ad267.add ((x10_1).toNat * 5)).off + 3, none⟩ = some (.int .i64 ((rd_T36 l1 x10_1).f3)) ∧ w'.cell? ⟨(ad267.add ((x10_1).toNat * 5)).block, (ad267.add ((x10_1).toNat * 5)).off + 4, none⟩ = some (.int .i64 ((rd_T36 l1 x10_1).f4))) (ds := []) #[false, false, false, false, false, false, false, false, false, false, false, false, false, false, false, false, false, false, false, false, false, false, false, false, false, false, false, false, false, false, false, false, false, false, false, false, false, false] (by kernel_rfl) rfl rfl ⟨(blk_cell BK268.out 0).trans rfl, (blk_cell BK268.out 1).trans rfl, (blk_cell BK268.out 2).trans rfl, (blk_cell BK268.out 3).trans rfl, (blk_cell BK268.out 4).trans rfl, ((HB.out.cell (World.block_lt_of_cell? w _ hw270_0)).trans hw270_0), ((HB.out.cell (World.block_lt_of_cell? w _ hw270_1)).trans hw270_1), ((HB.out.cell (World.block_lt_of_cell? w _ hw270_2)).trans hw270_2), ((HB.out.cell (World.block_lt_of_cell? w _ hw270_3)).trans hw270_3), ((HB.out.cell (World.block_lt_of_cell? w _ hw270_4)).trans hw270_4), ((HB.out.cell (World.block_lt_of_cell? w _ hw271_0)).trans hw271_0), ((HB.out.cell (World.block_lt_of_cell? w _ hw271_1)).trans hw271_1), ((HB.out.cell (World.block_lt_of_cell? w _ hw271_2)).trans hw271_2), ((HB.out.cell (World.block_lt_of_cell? w _ hw271_3)).trans hw271_3), ((HB.out.cell (World.block_lt_of_cell? w _ hw271_4)).trans hw271_4)⟩ (fun hHeld => ?_); refine with_tabW hopmeshref34_Fault.tab9 hopmeshref34_Fault.bits9 (fun HT_ HW_ => ?_)
            generalize wr.drew = w21 at BK266 BK268 HB hx270_0 hx270_1 hx270_2 hx270_3 hx270_4 hx271_0 hx271_1 hx271_2 hx271_3 hx271_4 hHeld ⊢
            refine pu_ HT_ 0 31 (bl 38 1) ?_
            refine pu_ HT_ 1 32 (bl 38 3) ?_
            refine pu_ HT_ 2 33 (bl 38 7) ?_
            refine pu_ HT_ 3 34 (bl 38 15) ?_
            refine pu_ HT_ 5 36 (bl 38 47) ?_
            refine tk_ HT_ HW_ hHeld 4 35 (bl 38 63) ?_
            refine tk_ HT_ HW_ hHeld 6 37 (bl 38 127) ?_
            refine pu_ HT_ 7 38 (bl 38 255) ?_
            refine pu_ HT_ 8 39 (bl 38 511) ?_
            refine pu_ HT_ 9 40 (bl 38 1023) ?_
            refine pu_ HT_ 10 41 (bl 38 2047) ?_
            refine pu_ HT_ 11 42 (bl 38 4095) ?_
            refine pu_ HT_ 12 43 (bl 38 8191) ?_
            refine pu_ HT_ 14 45 (bl 38 24575) ?_
            refine tk_ HT_ HW_ hHeld 13 44 (bl 38 32767) ?_
            refine tk_ HT_ HW_ hHeld 15 46 (bl 38 65535) ?_
            refine pu_ HT_ 16 47 (bl 38 131071) ?_
            refine pu_ HT_ 17 48 (bl 38 262143) ?_
            refine pu_ HT_ 18 49 (bl 38 524287) ?_
            refine of_ HT_ 19 50 (bl 38 1048575) ?_
            refine of_ HT_ 20 51 (bl 38 2097151) ?_
            refine of_ HT_ 21 52 (bl 38 4194303) ?_
            refine of_ HT_ 22 53 (bl 38 8388607) ?_
            refine of_ HT_ 23 54 (bl 38 16777215) ?_
            refine of_ HT_ 24 55 (bl 38 33554431) ?_
            refine of_ HT_ 25 56 (bl 38 67108863) ?_
            refine of_ HT_ 26 57 (bl 38 134217727) ?_
            refine pu_ HT_ 27 58 (bl 38 268435455) ?_
            refine pu_ HT_ 28 59 (bl 38 536870911) ?_
            refine of_ HT_ 29 60 (bl 38 1073741823) ?_
            refine of_ HT_ 30 61 (bl 38 2147483647) ?_
            refine of_ HT_ 31 62 (bl 38 4294967295) ?_
            refine of_ HT_ 32 63 (bl 38 8589934591) ?_
            refine of_ HT_ 33 64 (bl 38 17179869183) ?_
            refine of_ HT_ 34 65 (bl 38 34359738367) ?_
            refine of_ HT_ 35 66 (bl 38 68719476735) ?_
            refine of_ HT_ 36 67 (bl 38 137438953471) ?_
            refine pu_ HT_ 37 68 (bl 38 274877906943) ?_
            refine done_ (done_of HT_.out (by kernel_rfl)) ?_
            try go_wp2
            go_meet
            case rel => exact ⟨_, (true), rl_, H', ⟨by have := HK1.out; first | omega | exact Nat.le_refl _⟩, ⟨bj_ BK266⟩, ⟨bj_ BK268⟩, ⟨hb_⟩⟩
           ·
            rw [if_neg c20] at H
            have c20b0 : (((rd_T36 l1 x10_1).f2) == ((rd_T36 l1 a2).f3)) = false := beq_eq_false_iff_ne.mpr c20
            have c20b1 : (((rd_T36 l1 x10_1).f2) != ((rd_T36 l1 a2).f3)) = true := bne_iff_ne.mpr c20
            by_cases c22 : ((rd_T36 l1 x10_1).f3) = ((rd_T36 l1 a2).f2)
            ·
             rw [if_pos c22] at H
             have c22b0 : (((rd_T36 l1 x10_1).f3) == ((rd_T36 l1 a2).f2)) = true := beq_iff_eq.mpr c22
             have c22b1 : (((rd_T36 l1 x10_1).f3) != ((rd_T36 l1 a2).f2)) = false := bne_eq_false_iff_eq.mpr c22
             clear c22
             have H' := Aside0.mk H
             clear H
             try go_wp2
             have n0_ := Aside0.mk (blk_drew BK266.out)
             have n1_ := Aside0.mk (blk_drew BK268.out)
             have n2_ := Aside0.mk (below_drew1 HB.out)
             clear BK266
             clear BK268
             clear HB
             have BK266 := n0_
             have BK268 := n1_
             have HB := n2_
             clear n0_ n1_ n2_
             have p270 : 0 ≤ (x10_1 : Int) := of_decide_eq_true (by assumption)
             have q270 : x10_1 < (l1.length : Int) := of_decide_eq_true (by assumption)
             obtain ⟨ad270, e270, hx270_0, hx270_1, hx270_2, hx270_3, hx270_4⟩ := at_T36 HR1.out x10_1 p270 q270
             have hw270_4 := hx270_4
             have hw270_3 := hx270_3
             have hw270_2 := hx270_2
             have hw270_1 := hx270_1
             have hw270_0 := hx270_0
             obtain rfl : ad267 = ad270 := (by injection e270)
             replace hx270_0 := (HB.out.cell (World.block_lt_of_cell? w _ hx270_0)).trans hx270_0
             replace hx270_1 := (HB.out.cell (World.block_lt_of_cell? w _ hx270_1)).trans hx270_1
             replace hx270_2 := (HB.out.cell (World.block_lt_of_cell? w _ hx270_2)).trans hx270_2
             replace hx270_3 := (HB.out.cell (World.block_lt_of_cell? w _ hx270_3)).trans hx270_3
             replace hx270_4 := (HB.out.cell (World.block_lt_of_cell? w _ hx270_4)).trans hx270_4
             replace p270 := eq_true p270
             replace q270 := eq_true q270
             have p271 : 0 ≤ (x10_1 : Int) := of_decide_eq_true (by assumption)
             have q271 : x10_1 < (l1.length : Int) := of_decide_eq_true (by assumption)
             obtain ⟨ad271, e271, hx271_0, hx271_1, hx271_2, hx271_3, hx271_4⟩ := at_T36 HR1.out x10_1 p271 q271
             have hw271_4 := hx271_4
             have hw271_3 := hx271_3
             have hw271_2 := hx271_2
             have hw271_1 := hx271_1
             have hw271_0 := hx271_0
             obtain rfl : ad267 = ad271 := (by injection e271)
             replace hx271_0 := (HB.out.cell (World.block_lt_of_cell? w _ hx271_0)).trans hx271_0
             replace hx271_1 := (HB.out.cell (World.block_lt_of_cell? w _ hx271_1)).trans hx271_1
             replace hx271_2 := (HB.out.cell (World.block_lt_of_cell? w _ hx271_2)).trans hx271_2
             replace hx271_3 := (HB.out.cell (World.block_lt_of_cell? w _ hx271_3)).trans hx271_3
             replace hx271_4 := (HB.out.cell (World.block_lt_of_cell? w _ hx271_4)).trans hx271_4
             replace p271 := eq_true p271
             replace q271 := eq_true q271
             have p272 : 0 ≤ (x10_1 : Int) := of_decide_eq_true (by assumption)
             have q272 : x10_1 < (l1.length : Int) := of_decide_eq_true (by assumption)
             obtain ⟨ad272, e272, hx272_0, hx272_1, hx272_2, hx272_3, hx272_4⟩ := at_T36 HR1.out x10_1 p272 q272
             have hw272_4 := hx272_4
             have hw272_3 := hx272_3
             have hw272_2 := hx272_2
             have hw272_1 := hx272_1
             have hw272_0 := hx272_0
             obtain rfl : ad267 = ad272 := (by injection e272)
             replace hx272_0 := (HB.out.cell (World.block_lt_of_cell? w _ hx272_0)).trans hx272_0
             replace hx272_1 := (HB.out.cell (World.block_lt_of_cell? w _ hx272_1)).trans hx272_1
             replace hx272_2 := (HB.out.cell (World.block_lt_of_cell? w _ hx272_2)).trans hx272_2
             replace hx272_3 := (HB.out.cell (World.block_lt_of_cell? w _ hx272_3)).trans hx272_3
             replace hx272_4 := (HB.out.cell (World.block_lt_of_cell? w _ hx272_4)).trans hx272_4
             replace p272 := eq_true p272
             replace q272 := eq_true q272
             refine start_ (n := 38) (S := fun w' => w'.cell? ⟨gb268, 0, none⟩ = some (.int .i64 ((rd_T36 l1 a2).f0)) ∧ w'.cell? ⟨gb268, 1, none⟩ = some (.int .i64 ((rd_T36 l1 a2).f1)) ∧ w'.cell? ⟨gb268, 2, none⟩ = some (.int .i64 ((rd_T36 l1 a2).f2)) ∧ w'.cell? ⟨gb268, 3, none⟩ = some (.int .i64 ((rd_T36 l1 a2).f3)) ∧ w'.cell? ⟨gb268, 4, none⟩ = some (.int .i64 ((rd_T36 l1 a2).f4)) ∧ w'.cell? (ad267.add ((x10_1).toNat * 5)) = some (.int .i64 ((rd_T36 l1 x10_1).f0)) ∧ w'.cell? ⟨(ad267.add ((x10_1).toNat * 5)).block, (ad267.add ((x10_1).toNat * 5)).off + 1, none⟩ = some (.int .i64 ((rd_T36 l1 x10_1).f1)) ∧ w'.cell? ⟨(ad267.add ((x10_1).toNat * 5)).block, (ad267.add ((x10_1).toNat * 5)).off + 2, none⟩ = some (.int .i64 ((rd_T36 l1 x10_1).f2)) ∧ w'.cell? ⟨(ad267.add ((x10_1).toNat * 5)).block, (ad267.add ((x10_1).toNat * 5)).off + 3, none⟩ = some (.int .i64 ((rd_T36 l1 x10_1).f3)) ∧ w'.cell? ⟨(ad267.add ((x10_1).toNat * 5)).block, (ad267.add ((x10_1).toNat * 5)).off + 4, none⟩ = some (.int .i64 ((rd_T36 l1 x10_1).f4)) ∧ w'.cell? (ad267.add ((x10_1).toNat * 5)) = some (.int .i64 ((rd_T36 l1 x10_1).f0)) ∧ w'.cell? ⟨(ad267.add ((x10_1).toNat * 5)).block, (ad267.add ((x10_1).toNat * 5)).off + 1, none⟩ = some (.int .i64 ((rd_T36 l1 x10_1).f1)) ∧ w'.cell? ⟨(ad267.add ((x10_1).toNat * 5)).block, (ad267.add ((x10_1).toNat * 5)).off + 2, none⟩ = some (.int .i64 ((rd_T36 l1 x10_1).f2)) ∧ w'.cell? ⟨(ad267.add ((x10_1).toNat * 5)).block, (ad267.add ((x10_1).toNat * 5)).off + 3, none⟩ = some (.int .i64 ((rd_T36 l1 x10_1).f3)) ∧ w'.cell? ⟨(ad267.add ((x10_1).toNat * 5)).block, (ad267.add ((x10_1).toNat * 5)).off + 4, none⟩ = some (.int .i64 ((rd_T36 l1 x10_1).f4)) ∧ w'.cell? (ad267.add ((x10_1).toNat * 5)) = some (.int .i64 ((rd_T36 l1 x10_1).f0)) ∧ w'.cell? ⟨(ad267.add ((x10_1).toNat * 5)).block, (ad267.add ((x10_1).toNat * 5)).off + 1, none⟩ = some (.int .i64 ((rd_T36 l1 x10_1).f1)) ∧ w'.cell? ⟨(ad267.add ((x10_1).toNat * 5)).block, (ad267.add ((x10_1).toNat * 5)).off + 2, none⟩ = some (.int .i64 ((rd_T36 l1 x10_1).f2)) ∧ w'.cell? ⟨(ad267.add ((x10_1).toNat * 5)).block, (ad267.add ((x10_1).toNat * 5)).off + 3, none⟩ = some (.int .i64 ((rd_T36 l1 x10_1).f3)) ∧ w'.cell? ⟨(ad267.add ((x10_1).toNat * 5)).block, (ad267.add ((x10_1).toNat * 5)).off + 4, none⟩ = some (.int .i64 ((rd_T36 l1 x10_1).f4))) (ds := []) #[false, false, false, false, false, false, false, false, false, false, false, false, false, false, false, false, false, false, false, false, false, false, false, false, false, false, false, false, false, false, false, false, false, false, false, false, false, false] (by kernel_rfl) rfl rfl ⟨(blk_cell BK268.out 0).trans rfl, (blk_cell BK268.out 1).trans rfl, (blk_cell BK268.out 2).trans rfl, (blk_cell BK268.out 3).trans rfl, (blk_cell BK268.out 4).trans rfl, ((HB.out.cell (World.block_lt_of_cell? w _ hw270_0)).trans hw270_0), ((HB.out.cell (World.block_lt_of_cell? w _ hw270_1)).trans hw270_1), ((HB.out.cell (World.block_lt_of_cell? w _ hw270_2)).trans hw270_2), ((HB.out.cell (World.block_lt_of_cell? w _ hw270_3)).trans hw270_3), ((HB.out.cell (World.block_lt_of_cell? w _ hw270_4)).trans hw270_4), ((HB.out.cell (World.block_lt_of_cell? w _ hw271_0)).trans hw271_0), ((HB.out.cell (World.block_lt_of_cell? w _ hw271_1)).trans hw271_1), ((HB.out.cell (World.block_lt_of_cell? w _ hw271_2)).trans hw271_2), ((HB.out.cell (World.block_lt_of_cell? w _ hw271_3)).trans hw271_3), ((HB.out.cell (World.block_lt_of_cell? w _ hw271_4)).trans hw271_4), ((HB.out.cell (World.block_lt_of_cell? w _ hw272_0)).trans hw272_0), ((HB.out.cell (World.block_lt_of_cell? w _ hw272_1)).trans hw272_1), ((HB.out.cell (World.block_lt_of_cell? w _ hw272_2)).trans hw272_2), ((HB.out.cell (World.block_lt_of_cell? w _ hw272_3)).trans hw272_3), ((HB.out.cell (World.block_lt_of_cell? w _ hw272_4)).trans hw272_4)⟩ (fun hHeld => ?_); refine with_tabW hopmeshref34_Fault.tab9 hopmeshref34_Fault.bits9 (fun HT_ HW_ => ?_)
             generalize wr.drew = w23 at BK266 BK268 HB hx270_0 hx270_1 hx270_2 hx270_3 hx270_4 hx271_0 hx271_1 hx271_2 hx271_3 hx271_4 hx272_0 hx272_1 hx272_2 hx272_3 hx272_4 hHeld ⊢
             refine pu_ HT_ 0 31 (bl 38 1) ?_
             refine pu_ HT_ 1 32 (bl 38 3) ?_
             refine pu_ HT_ 2 33 (bl 38 7) ?_
             refine pu_ HT_ 3 34 (bl 38 15) ?_
             refine pu_ HT_ 5 36 (bl 38 47) ?_
             refine tk_ HT_ HW_ hHeld 4 35 (bl 38 63) ?_
             refine tk_ HT_ HW_ hHeld 6 37 (bl 38 127) ?_
             refine pu_ HT_ 7 38 (bl 38 255) ?_
             refine pu_ HT_ 8 39 (bl 38 511) ?_
             refine pu_ HT_ 9 40 (bl 38 1023) ?_
             refine pu_ HT_ 10 41 (bl 38 2047) ?_
             refine pu_ HT_ 11 42 (bl 38 4095) ?_
             refine pu_ HT_ 12 43 (bl 38 8191) ?_
             refine pu_ HT_ 14 45 (bl 38 24575) ?_
             refine tk_ HT_ HW_ hHeld 13 44 (bl 38 32767) ?_
             refine tk_ HT_ HW_ hHeld 15 46 (bl 38 65535) ?_
             refine pu_ HT_ 16 47 (bl 38 131071) ?_
             refine pu_ HT_ 17 48 (bl 38 262143) ?_
             refine pu_ HT_ 18 49 (bl 38 524287) ?_
             refine pu_ HT_ 19 50 (bl 38 1048575) ?_
             refine pu_ HT_ 20 51 (bl 38 2097151) ?_
             refine pu_ HT_ 21 52 (bl 38 4194303) ?_
             refine pu_ HT_ 22 53 (bl 38 8388607) ?_
             refine pu_ HT_ 24 55 (bl 38 25165823) ?_
             refine tk_ HT_ HW_ hHeld 23 54 (bl 38 33554431) ?_
             refine tk_ HT_ HW_ hHeld 25 56 (bl 38 67108863) ?_
             refine pu_ HT_ 26 57 (bl 38 134217727) ?_
             refine pu_ HT_ 27 58 (bl 38 268435455) ?_
             refine pu_ HT_ 28 59 (bl 38 536870911) ?_
             refine of_ HT_ 29 60 (bl 38 1073741823) ?_
             refine of_ HT_ 30 61 (bl 38 2147483647) ?_
             refine of_ HT_ 31 62 (bl 38 4294967295) ?_
             refine of_ HT_ 32 63 (bl 38 8589934591) ?_
             refine of_ HT_ 33 64 (bl 38 17179869183) ?_
             refine of_ HT_ 34 65 (bl 38 34359738367) ?_
             refine of_ HT_ 35 66 (bl 38 68719476735) ?_
             refine of_ HT_ 36 67 (bl 38 137438953471) ?_
             refine pu_ HT_ 37 68 (bl 38 274877906943) ?_
             refine done_ (done_of HT_.out (by kernel_rfl)) ?_
             try go_wp2
             go_meet
             case rel => exact ⟨_, (true), rl_, H', ⟨by have := HK1.out; first | omega | exact Nat.le_refl _⟩, ⟨bj_ BK266⟩, ⟨bj_ BK268⟩, ⟨hb_⟩⟩
            ·
             rw [if_neg c22] at H
             have c22b0 : (((rd_T36 l1 x10_1).f3) == ((rd_T36 l1 a2).f2)) = false := beq_eq_false_iff_ne.mpr c22
             have c22b1 : (((rd_T36 l1 x10_1).f3) != ((rd_T36 l1 a2).f2)) = true := bne_iff_ne.mpr c22
             have H' := Aside0.mk H
             clear H
             try go_wp2
             have n0_ := Aside0.mk (blk_drew BK266.out)
             have n1_ := Aside0.mk (blk_drew BK268.out)
             have n2_ := Aside0.mk (below_drew1 HB.out)
             clear BK266
             clear BK268
             clear HB
             have BK266 := n0_
             have BK268 := n1_
             have HB := n2_
             clear n0_ n1_ n2_
             have p270 : 0 ≤ (x10_1 : Int) := of_decide_eq_true (by assumption)
             have q270 : x10_1 < (l1.length : Int) := of_decide_eq_true (by assumption)
             obtain ⟨ad270, e270, hx270_0, hx270_1, hx270_2, hx270_3, hx270_4⟩ := at_T36 HR1.out x10_1 p270 q270
             have hw270_4 := hx270_4
             have hw270_3 := hx270_3
             have hw270_2 := hx270_2
             have hw270_1 := hx270_1
             have hw270_0 := hx270_0
             obtain rfl : ad267 = ad270 := (by injection e270)
             replace hx270_0 := (HB.out.cell (World.block_lt_of_cell? w _ hx270_0)).trans hx270_0
             replace hx270_1 := (HB.out.cell (World.block_lt_of_cell? w _ hx270_1)).trans hx270_1
             replace hx270_2 := (HB.out.cell (World.block_lt_of_cell? w _ hx270_2)).trans hx270_2
             replace hx270_3 := (HB.out.cell (World.block_lt_of_cell? w _ hx270_3)).trans hx270_3
             replace hx270_4 := (HB.out.cell (World.block_lt_of_cell? w _ hx270_4)).trans hx270_4
             replace p270 := eq_true p270
             replace q270 := eq_true q270
             have p271 : 0 ≤ (x10_1 : Int) := of_decide_eq_true (by assumption)
             have q271 : x10_1 < (l1.length : Int) := of_decide_eq_true (by assumption)
             obtain ⟨ad271, e271, hx271_0, hx271_1, hx271_2, hx271_3, hx271_4⟩ := at_T36 HR1.out x10_1 p271 q271
             have hw271_4 := hx271_4
             have hw271_3 := hx271_3
             have hw271_2 := hx271_2
             have hw271_1 := hx271_1
             have hw271_0 := hx271_0
             obtain rfl : ad267 = ad271 := (by injection e271)
             replace hx271_0 := (HB.out.cell (World.block_lt_of_cell? w _ hx271_0)).trans hx271_0
             replace hx271_1 := (HB.out.cell (World.block_lt_of_cell? w _ hx271_1)).trans hx271_1
             replace hx271_2 := (HB.out.cell (World.block_lt_of_cell? w _ hx271_2)).trans hx271_2
             replace hx271_3 := (HB.out.cell (World.block_lt_of_cell? w _ hx271_3)).trans hx271_3
             replace hx271_4 := (HB.out.cell (World.block_lt_of_cell? w _ hx271_4)).trans hx271_4
             replace p271 := eq_true p271
             replace q271 := eq_true q271
             have p272 : 0 ≤ (x10_1 : Int) := of_decide_eq_true (by assumption)
             have q272 : x10_1 < (l1.length : Int) := of_decide_eq_true (by assumption)
             obtain ⟨ad272, e272, hx272_0, hx272_1, hx272_2, hx272_3, hx272_4⟩ := at_T36 HR1.out x10_1 p272 q272
             have hw272_4 := hx272_4
             have hw272_3 := hx272_3
             have hw272_2 := hx272_2
             have hw272_1 := hx272_1
             have hw272_0 := hx272_0
             obtain rfl : ad267 = ad272 := (by injection e272)
             replace hx272_0 := (HB.out.cell (World.block_lt_of_cell? w _ hx272_0)).trans hx272_0
             replace hx272_1 := (HB.out.cell (World.block_lt_of_cell? w _ hx272_1)).trans hx272_1
             replace hx272_2 := (HB.out.cell (World.block_lt_of_cell? w _ hx272_2)).trans hx272_2
             replace hx272_3 := (HB.out.cell (World.block_lt_of_cell? w _ hx272_3)).trans hx272_3
             replace hx272_4 := (HB.out.cell (World.block_lt_of_cell? w _ hx272_4)).trans hx272_4
             replace p272 := eq_true p272
             replace q272 := eq_true q272
             have p273 : 0 ≤ (x10_1 : Int) := of_decide_eq_true (by assumption)
             have q273 : x10_1 < (l1.length : Int) := of_decide_eq_true (by assumption)
             obtain ⟨ad273, e273, hx273_0, hx273_1, hx273_2, hx273_3, hx273_4⟩ := at_T36 HR1.out x10_1 p273 q273
             have hw273_4 := hx273_4
             have hw273_3 := hx273_3
             have hw273_2 := hx273_2
             have hw273_1 := hx273_1
             have hw273_0 := hx273_0
             obtain rfl : ad267 = ad273 := (by injection e273)
             replace hx273_0 := (HB.out.cell (World.block_lt_of_cell? w _ hx273_0)).trans hx273_0
             replace hx273_1 := (HB.out.cell (World.block_lt_of_cell? w _ hx273_1)).trans hx273_1
             replace hx273_2 := (HB.out.cell (World.block_lt_of_cell? w _ hx273_2)).trans hx273_2
             replace hx273_3 := (HB.out.cell (World.block_lt_of_cell? w _ hx273_3)).trans hx273_3
             replace hx273_4 := (HB.out.cell (World.block_lt_of_cell? w _ hx273_4)).trans hx273_4
             replace p273 := eq_true p273
             replace q273 := eq_true q273
             refine start_ (n := 38) (S := fun w' => w'.cell? ⟨gb268, 0, none⟩ = some (.int .i64 ((rd_T36 l1 a2).f0)) ∧ w'.cell? ⟨gb268, 1, none⟩ = some (.int .i64 ((rd_T36 l1 a2).f1)) ∧ w'.cell? ⟨gb268, 2, none⟩ = some (.int .i64 ((rd_T36 l1 a2).f2)) ∧ w'.cell? ⟨gb268, 3, none⟩ = some (.int .i64 ((rd_T36 l1 a2).f3)) ∧ w'.cell? ⟨gb268, 4, none⟩ = some (.int .i64 ((rd_T36 l1 a2).f4)) ∧ w'.cell? (ad267.add ((x10_1).toNat * 5)) = some (.int .i64 ((rd_T36 l1 x10_1).f0)) ∧ w'.cell? ⟨(ad267.add ((x10_1).toNat * 5)).block, (ad267.add ((x10_1).toNat * 5)).off + 1, none⟩ = some (.int .i64 ((rd_T36 l1 x10_1).f1)) ∧ w'.cell? ⟨(ad267.add ((x10_1).toNat * 5)).block, (ad267.add ((x10_1).toNat * 5)).off + 2, none⟩ = some (.int .i64 ((rd_T36 l1 x10_1).f2)) ∧ w'.cell? ⟨(ad267.add ((x10_1).toNat * 5)).block, (ad267.add ((x10_1).toNat * 5)).off + 3, none⟩ = some (.int .i64 ((rd_T36 l1 x10_1).f3)) ∧ w'.cell? ⟨(ad267.add ((x10_1).toNat * 5)).block, (ad267.add ((x10_1).toNat * 5)).off + 4, none⟩ = some (.int .i64 ((rd_T36 l1 x10_1).f4)) ∧ w'.cell? (ad267.add ((x10_1).toNat * 5)) = some (.int .i64 ((rd_T36 l1 x10_1).f0)) ∧ w'.cell? ⟨(ad267.add ((x10_1).toNat * 5)).block, (ad267.add ((x10_1).toNat * 5)).off + 1, none⟩ = some (.int .i64 ((rd_T36 l1 x10_1).f1)) ∧ w'.cell? ⟨(ad267.add ((x10_1).toNat * 5)).block, (ad267.add ((x10_1).toNat * 5)).off + 2, none⟩ = some (.int .i64 ((rd_T36 l1 x10_1).f2)) ∧ w'.cell? ⟨(ad267.add ((x10_1).toNat * 5)).block, (ad267.add ((x10_1).toNat * 5)).off + 3, none⟩ = some (.int .i64 ((rd_T36 l1 x10_1).f3)) ∧ w'.cell? ⟨(ad267.add ((x10_1).toNat * 5)).block, (ad267.add ((x10_1).toNat * 5)).off + 4, none⟩ = some (.int .i64 ((rd_T36 l1 x10_1).f4)) ∧ w'.cell? (ad267.add ((x10_1).toNat * 5)) = some (.int .i64 ((rd_T36 l1 x10_1).f0)) ∧ w'.cell? ⟨(ad267.add ((x10_1).toNat * 5)).block, (ad267.add ((x10_1).toNat * 5)).off + 1, none⟩ = some (.int .i64 ((rd_T36 l1 x10_1).f1)) ∧ w'.cell? ⟨(ad267.add ((x10_1).toNat * 5)).block, (ad267.add ((x10_1).toNat * 5)).off + 2, none⟩ = some (.int .i64 ((rd_T36 l1 x10_1).f2)) ∧ w'.cell? ⟨(ad267.add ((x10_1).toNat * 5)).block, (ad267.add ((x10_1).toNat * 5)).off + 3, none⟩ = some (.int .i64 ((rd_T36 l1 x10_1).f3)) ∧ w'.cell? ⟨(ad267.add ((x10_1).toNat * 5)).block, (ad267.add ((x10_1).toNat * 5)).off + 4, none⟩ = some (.int .i64 ((rd_T36 l1 x10_1).f4)) ∧ w'.cell? (ad267.add ((x10_1).toNat * 5)) = some (.int .i64 ((rd_T36 l1 x10_1).f0)) ∧ w'.cell? ⟨(ad267.add ((x10_1).toNat * 5)).block, (ad267.add ((x10_1).toNat * 5)).off + 1, none⟩ = some (.int .i64 ((rd_T36 l1 x10_1).f1)) ∧ w'.cell? ⟨(ad267.add ((x10_1).toNat * 5)).block, (ad267.add ((x10_1).toNat * 5)).off + 2, none⟩ = some (.int .i64 ((rd_T36 l1 x10_1).f2)) ∧ w'.cell? ⟨(ad267.add ((x10_1).toNat * 5)).block, (ad267.add ((x10_1).toNat * 5)).off + 3, none⟩ = some (.int .i64 ((rd_T36 l1 x10_1).f3)) ∧ w'.cell? ⟨(ad267.add ((x10_1).toNat * 5)).block, (ad267.add ((x10_1).toNat * 5)).off + 4, none⟩ = some (.int .i64 ((rd_T36 l1 x10_1).f4))) (ds := []) #[false, false, false, false, false, false, false, false, false, false, false, false, false, false, false, false, false, false, false, false, false, false, false, false, false, false, false, false, false, false, false, false, false, false, false, false, false, false] (by kernel_rfl) rfl rfl ⟨(blk_cell BK268.out 0).trans rfl, (blk_cell BK268.out 1).trans rfl, (blk_cell BK268.out 2).trans rfl, (blk_cell BK268.out 3).trans rfl, (blk_cell BK268.out 4).trans rfl, ((HB.out.cell (World.block_lt_of_cell? w _ hw270_0)).trans hw270_0), ((HB.out.cell (World.block_lt_of_cell? w _ hw270_1)).trans hw270_1), ((HB.out.cell (World.block_lt_of_cell? w _ hw270_2)).trans hw270_2), ((HB.out.cell (World.block_lt_of_cell? w _ hw270_3)).trans hw270_3), ((HB.out.cell (World.block_lt_of_cell? w _ hw270_4)).trans hw270_4), ((HB.out.cell (World.block_lt_of_cell? w _ hw271_0)).trans hw271_0), ((HB.out.cell (World.block_lt_of_cell? w _ hw271_1)).trans hw271_1), ((HB.out.cell (World.block_lt_of_cell? w _ hw271_2)).trans hw271_2), ((HB.out.cell (World.block_lt_of_cell? w _ hw271_3)).trans hw271_3), ((HB.out.cell (World.block_lt_of_cell? w _ hw271_4)).trans hw271_4), ((HB.out.cell (World.block_lt_of_cell? w _ hw272_0)).trans hw272_0), ((HB.out.cell (World.block_lt_of_cell? w _ hw272_1)).trans hw272_1), ((HB.out.cell (World.block_lt_of_cell? w _ hw272_2)).trans hw272_2), ((HB.out.cell (World.block_lt_of_cell? w _ hw272_3)).trans hw272_3), ((HB.out.cell (World.block_lt_of_cell? w _ hw272_4)).trans hw272_4), ((HB.out.cell (World.block_lt_of_cell? w _ hw273_0)).trans hw273_0), ((HB.out.cell (World.block_lt_of_cell? w _ hw273_1)).trans hw273_1), ((HB.out.cell (World.block_lt_of_cell? w _ hw273_2)).trans hw273_2), ((HB.out.cell (World.block_lt_of_cell? w _ hw273_3)).trans hw273_3), ((HB.out.cell (World.block_lt_of_cell? w _ hw273_4)).trans hw273_4)⟩ (fun hHeld => ?_); refine with_tabW hopmeshref34_Fault.tab9 hopmeshref34_Fault.bits9 (fun HT_ HW_ => ?_)
             generalize wr.drew = w24 at BK266 BK268 HB hx270_0 hx270_1 hx270_2 hx270_3 hx270_4 hx271_0 hx271_1 hx271_2 hx271_3 hx271_4 hx272_0 hx272_1 hx272_2 hx272_3 hx272_4 hx273_0 hx273_1 hx273_2 hx273_3 hx273_4 hHeld ⊢
             refine pu_ HT_ 0 31 (bl 38 1) ?_
             refine pu_ HT_ 1 32 (bl 38 3) ?_
             refine pu_ HT_ 2 33 (bl 38 7) ?_
             refine pu_ HT_ 3 34 (bl 38 15) ?_
             refine pu_ HT_ 5 36 (bl 38 47) ?_
             refine tk_ HT_ HW_ hHeld 4 35 (bl 38 63) ?_
             refine tk_ HT_ HW_ hHeld 6 37 (bl 38 127) ?_
             refine pu_ HT_ 7 38 (bl 38 255) ?_
             refine pu_ HT_ 8 39 (bl 38 511) ?_
             refine pu_ HT_ 9 40 (bl 38 1023) ?_
             refine pu_ HT_ 10 41 (bl 38 2047) ?_
             refine pu_ HT_ 11 42 (bl 38 4095) ?_
             refine pu_ HT_ 12 43 (bl 38 8191) ?_
             refine pu_ HT_ 14 45 (bl 38 24575) ?_
             refine tk_ HT_ HW_ hHeld 13 44 (bl 38 32767) ?_
             refine tk_ HT_ HW_ hHeld 15 46 (bl 38 65535) ?_
             refine pu_ HT_ 16 47 (bl 38 131071) ?_
             refine pu_ HT_ 17 48 (bl 38 262143) ?_
             refine pu_ HT_ 18 49 (bl 38 524287) ?_
             refine pu_ HT_ 19 50 (bl 38 1048575) ?_
             refine pu_ HT_ 20 51 (bl 38 2097151) ?_
             refine pu_ HT_ 21 52 (bl 38 4194303) ?_
             refine pu_ HT_ 22 53 (bl 38 8388607) ?_
             refine pu_ HT_ 24 55 (bl 38 25165823) ?_
             refine tk_ HT_ HW_ hHeld 23 54 (bl 38 33554431) ?_
             refine tk_ HT_ HW_ hHeld 25 56 (bl 38 67108863) ?_
             refine pu_ HT_ 26 57 (bl 38 134217727) ?_
             refine pu_ HT_ 27 58 (bl 38 268435455) ?_
             refine pu_ HT_ 28 59 (bl 38 536870911) ?_
             refine pu_ HT_ 29 60 (bl 38 1073741823) ?_
             refine pu_ HT_ 30 61 (bl 38 2147483647) ?_
             refine pu_ HT_ 31 62 (bl 38 4294967295) ?_
             refine pu_ HT_ 32 63 (bl 38 8589934591) ?_
             refine pu_ HT_ 34 65 (bl 38 25769803775) ?_
             refine tk_ HT_ HW_ hHeld 33 64 (bl 38 34359738367) ?_
             refine tk_ HT_ HW_ hHeld 35 66 (bl 38 68719476735) ?_
             refine pu_ HT_ 36 67 (bl 38 137438953471) ?_
             refine pu_ HT_ 37 68 (bl 38 274877906943) ?_
             refine done_ (done_of HT_.out (by kernel_rfl)) ?_
             try go_wp2
             go_meet
             case rel => exact ⟨_, ((((rd_T36 l1 x10_1).f3) == ((rd_T36 l1 a2).f3))), rl_, H', ⟨by have := HK1.out; first | omega | exact Nat.le_refl _⟩, ⟨bj_ BK266⟩, ⟨bj_ BK268⟩, ⟨hb_⟩⟩
         ·
          rw [if_neg c17] at H
          exact absurd H (by simp)
        case rest =>
         clear HC16
         try clear c1; try clear c2; try clear p2; try clear q2; try clear hx2; try clear c17; try clear c22; try clear c22b0; try clear c22b1; try clear hx270_0; try clear hx270_1; try clear hx270_2; try clear hx270_3; try clear hx270_4; try clear hx271_0; try clear hx271_1; try clear hx271_2; try clear hx271_3; try clear hx271_4; try clear hx272_0; try clear hx272_1; try clear hx272_2; try clear hx272_3; try clear hx272_4; try clear hx273_0; try clear hx273_1; try clear hx273_2; try clear hx273_3; try clear hx273_4; try clear p270; try clear p271; try clear p272; try clear p273; try clear q270; try clear q271; try clear q272; try clear q273
         (repeat clear BK266); (repeat clear BK268); (repeat clear HB)
         obtain ⟨kq, x68_15, rfl, HA, HJ15, BK266, BK268, HB⟩ := hcut
         cases kq with
         | zero => exact absurd HA.out (by simp [hopmeshref34_Fault.j1])
         | succ kj15 =>
          have H := HA.out
          clear HA
          simp only [hopmeshref34_Fault.j1] at H
          by_cases c25 : x68_15 = true
          ·
           subst c25
           have H1 : (some true) = some r := by rw [if_pos rfl] at H; exact H
           clear H
           have H := H1
           clear H1
           obtain rfl := Option.some.inj H
           go_wp2
           go_ret
           exact ⟨er_, hb_⟩
          ·
           replace c25 := Bool.eq_false_iff.mpr c25
           subst c25
           have H1 : (if 0 ≤ x10_1 then (if x10_1 < (l1.length : Int) then ((hopmeshref34_power.f a0_0 l0_1 a0_2 a0_3 l0_4 l0_5 ((rd_T36 l1 x10_1).f2) ((rd_T36 l1 a2).f3)).bind fun t275 => ((hopmeshref34_power.f a0_0 l0_1 a0_2 a0_3 l0_4 l0_5 ((rd_T36 l1 x10_1).f3) ((rd_T36 l1 a2).f3)).bind fun t277 => ((hopmeshref34_power.f a0_0 l0_1 a0_2 a0_3 l0_4 l0_5 ((rd_T36 l1 x10_1).f2) ((rd_T36 l1 a2).f2)).bind fun t279 => ((hopmeshref34_power.f a0_0 l0_1 a0_2 a0_3 l0_4 l0_5 ((rd_T36 l1 x10_1).f3) ((rd_T36 l1 a2).f2)).bind fun t281 => (hopmeshref34_Fault.l0 kj15 l1 a2 (wrap64 ((wrap64 (x8_1 + t275)) + t277)) (wrap64 ((wrap64 (x9_1 + t279)) + t281)) (wrap64 (x10_1 + 1)) a0_0 l0_1 a0_2 a0_3 l0_4 l0_5 ((rd_T36 l1 a2).f0) ((rd_T36 l1 a2).f1) ((rd_T36 l1 a2).f2) ((rd_T36 l1 a2).f3) ((rd_T36 l1 a2).f4)))))) else (none)) else (none)) = some r := by rw [if_neg (show ¬ (false = true) by decide)] at H; exact H
           clear H
           have H := H1
           clear H1
           by_cases c26 : 0 ≤ x10_1
           ·
            rw [if_pos c26] at H
            have c26b0 : decide (0 ≤ x10_1) = true := decide_eq_true c26
            clear c26
            by_cases c27 : x10_1 < (l1.length : Int)
            ·
             rw [if_pos c27] at H
             have c27b0 : decide (x10_1 < (l1.length : Int)) = true := decide_eq_true c27
             clear c27
             replace H := Option.bind_eq_some_iff.mp H
             obtain ⟨t275, A280, H⟩ := H
             replace H : ((hopmeshref34_power.f a0_0 l0_1 a0_2 a0_3 l0_4 l0_5 ((rd_T36 l1 x10_1).f3) ((rd_T36 l1 a2).f3)).bind fun t277 => ((hopmeshref34_power.f a0_0 l0_1 a0_2 a0_3 l0_4 l0_5 ((rd_T36 l1 x10_1).f2) ((rd_T36 l1 a2).f2)).bind fun t279 => ((hopmeshref34_power.f a0_0 l0_1 a0_2 a0_3 l0_4 l0_5 ((rd_T36 l1 x10_1).f3) ((rd_T36 l1 a2).f2)).bind fun t281 => (hopmeshref34_Fault.l0 kj15 l1 a2 (wrap64 ((wrap64 (x8_1 + t275)) + t277)) (wrap64 ((wrap64 (x9_1 + t279)) + t281)) (wrap64 (x10_1 + 1)) a0_0 l0_1 a0_2 a0_3 l0_4 l0_5 ((rd_T36 l1 a2).f0) ((rd_T36 l1 a2).f1) ((rd_T36 l1 a2).f2) ((rd_T36 l1 a2).f3) ((rd_T36 l1 a2).f4))))) = some r := H
             have A28 := Aside0.mk A280
             clear A280
             replace H := Option.bind_eq_some_iff.mp H
             obtain ⟨t277, A290, H⟩ := H
             replace H : ((hopmeshref34_power.f a0_0 l0_1 a0_2 a0_3 l0_4 l0_5 ((rd_T36 l1 x10_1).f2) ((rd_T36 l1 a2).f2)).bind fun t279 => ((hopmeshref34_power.f a0_0 l0_1 a0_2 a0_3 l0_4 l0_5 ((rd_T36 l1 x10_1).f3) ((rd_T36 l1 a2).f2)).bind fun t281 => (hopmeshref34_Fault.l0 kj15 l1 a2 (wrap64 ((wrap64 (x8_1 + t275)) + t277)) (wrap64 ((wrap64 (x9_1 + t279)) + t281)) (wrap64 (x10_1 + 1)) a0_0 l0_1 a0_2 a0_3 l0_4 l0_5 ((rd_T36 l1 a2).f0) ((rd_T36 l1 a2).f1) ((rd_T36 l1 a2).f2) ((rd_T36 l1 a2).f3) ((rd_T36 l1 a2).f4)))) = some r := H
             have A29 := Aside0.mk A290
             clear A290
             replace H := Option.bind_eq_some_iff.mp H
             obtain ⟨t279, A300, H⟩ := H
             replace H : ((hopmeshref34_power.f a0_0 l0_1 a0_2 a0_3 l0_4 l0_5 ((rd_T36 l1 x10_1).f3) ((rd_T36 l1 a2).f2)).bind fun t281 => (hopmeshref34_Fault.l0 kj15 l1 a2 (wrap64 ((wrap64 (x8_1 + t275)) + t277)) (wrap64 ((wrap64 (x9_1 + t279)) + t281)) (wrap64 (x10_1 + 1)) a0_0 l0_1 a0_2 a0_3 l0_4 l0_5 ((rd_T36 l1 a2).f0) ((rd_T36 l1 a2).f1) ((rd_T36 l1 a2).f2) ((rd_T36 l1 a2).f3) ((rd_T36 l1 a2).f4))) = some r := H
             have A30 := Aside0.mk A300
             clear A300
             replace H := Option.bind_eq_some_iff.mp H
             obtain ⟨t281, A310, H⟩ := H
             replace H : (hopmeshref34_Fault.l0 kj15 l1 a2 (wrap64 ((wrap64 (x8_1 + t275)) + t277)) (wrap64 ((wrap64 (x9_1 + t279)) + t281)) (wrap64 (x10_1 + 1)) a0_0 l0_1 a0_2 a0_3 l0_4 l0_5 ((rd_T36 l1 a2).f0) ((rd_T36 l1 a2).f1) ((rd_T36 l1 a2).f2) ((rd_T36 l1 a2).f3) ((rd_T36 l1 a2).f4)) = some r := H
             have A31 := Aside0.mk A310
             clear A310
             have H' := Aside0.mk H
             clear H
             try go_wp2
             have n0_ := Aside0.mk (blk_drew BK266.out)
             have n1_ := Aside0.mk (blk_drew BK268.out)
             have n2_ := Aside0.mk (below_drew1 HB.out)
             clear BK266
             clear BK268
             clear HB
             have BK266 := n0_
             have BK268 := n1_
             have HB := n2_
             clear n0_ n1_ n2_
             have p274 : 0 ≤ (x10_1 : Int) := of_decide_eq_true (by assumption)
             have q274 : x10_1 < (l1.length : Int) := of_decide_eq_true (by assumption)
             obtain ⟨ad274, e274, hx274_0, hx274_1, hx274_2, hx274_3, hx274_4⟩ := at_T36 HR1.out x10_1 p274 q274
             have hw274_4 := hx274_4
             have hw274_3 := hx274_3
             have hw274_2 := hx274_2
             have hw274_1 := hx274_1
             have hw274_0 := hx274_0
             obtain rfl : ad267 = ad274 := (by injection e274)
             replace hx274_0 := (HB.out.cell (World.block_lt_of_cell? w _ hx274_0)).trans hx274_0
             replace hx274_1 := (HB.out.cell (World.block_lt_of_cell? w _ hx274_1)).trans hx274_1
             replace hx274_2 := (HB.out.cell (World.block_lt_of_cell? w _ hx274_2)).trans hx274_2
             replace hx274_3 := (HB.out.cell (World.block_lt_of_cell? w _ hx274_3)).trans hx274_3
             replace hx274_4 := (HB.out.cell (World.block_lt_of_cell? w _ hx274_4)).trans hx274_4
             replace p274 := eq_true p274
             replace q274 := eq_true q274
             have p276 : 0 ≤ (x10_1 : Int) := of_decide_eq_true (by assumption)
             have q276 : x10_1 < (l1.length : Int) := of_decide_eq_true (by assumption)
             obtain ⟨ad276, e276, hx276_0, hx276_1, hx276_2, hx276_3, hx276_4⟩ := at_T36 HR1.out x10_1 p276 q276
             have hw276_4 := hx276_4
             have hw276_3 := hx276_3
             have hw276_2 := hx276_2
             have hw276_1 := hx276_1
             have hw276_0 := hx276_0
             obtain rfl : ad267 = ad276 := (by injection e276)
             replace hx276_0 := (HB.out.cell (World.block_lt_of_cell? w _ hx276_0)).trans hx276_0
             replace hx276_1 := (HB.out.cell (World.block_lt_of_cell? w _ hx276_1)).trans hx276_1
             replace hx276_2 := (HB.out.cell (World.block_lt_of_cell? w _ hx276_2)).trans hx276_2
             replace hx276_3 := (HB.out.cell (World.block_lt_of_cell? w _ hx276_3)).trans hx276_3
             replace hx276_4 := (HB.out.cell (World.block_lt_of_cell? w _ hx276_4)).trans hx276_4
             replace p276 := eq_true p276
             replace q276 := eq_true q276
             refine start_ (n := 22) (S := fun w' => w'.cell? ⟨gb266, 0, none⟩ = some (.int .i64 a0_0) ∧ w'.cell? ⟨gb266, 1, none⟩ = some (.slice A0_1 l0_1.length c0_1) ∧ w'.cell? ⟨gb266, 2, none⟩ = some (.int .i64 a0_2) ∧ w'.cell? ⟨gb266, 3, none⟩ = some (.int .i64 a0_3) ∧ w'.cell? ⟨gb266, 4, none⟩ = some (.slice A0_4 l0_4.length c0_4) ∧ w'.cell? ⟨gb266, 5, none⟩ = some (.slice A0_5 l0_5.length c0_5) ∧ w'.cell? ⟨gb268, 0, none⟩ = some (.int .i64 ((rd_T36 l1 a2).f0)) ∧ w'.cell? ⟨gb268, 1, none⟩ = some (.int .i64 ((rd_T36 l1 a2).f1)) ∧ w'.cell? ⟨gb268, 2, none⟩ = some (.int .i64 ((rd_T36 l1 a2).f2)) ∧ w'.cell? ⟨gb268, 3, none⟩ = some (.int .i64 ((rd_T36 l1 a2).f3)) ∧ w'.cell? ⟨gb268, 4, none⟩ = some (.int .i64 ((rd_T36 l1 a2).f4)) ∧ w'.cell? (ad267.add ((x10_1).toNat * 5)) = some (.int .i64 ((rd_T36 l1 x10_1).f0)) ∧ w'.cell? ⟨(ad267.add ((x10_1).toNat * 5)).block, (ad267.add ((x10_1).toNat * 5)).off + 1, none⟩ = some (.int .i64 ((rd_T36 l1 x10_1).f1)) ∧ w'.cell? ⟨(ad267.add ((x10_1).toNat * 5)).block, (ad267.add ((x10_1).toNat * 5)).off + 2, none⟩ = some (.int .i64 ((rd_T36 l1 x10_1).f2)) ∧ w'.cell? ⟨(ad267.add ((x10_1).toNat * 5)).block, (ad267.add ((x10_1).toNat * 5)).off + 3, none⟩ = some (.int .i64 ((rd_T36 l1 x10_1).f3)) ∧ w'.cell? ⟨(ad267.add ((x10_1).toNat * 5)).block, (ad267.add ((x10_1).toNat * 5)).off + 4, none⟩ = some (.int .i64 ((rd_T36 l1 x10_1).f4)) ∧ w'.cell? (ad267.add ((x10_1).toNat * 5)) = some (.int .i64 ((rd_T36 l1 x10_1).f0)) ∧ w'.cell? ⟨(ad267.add ((x10_1).toNat * 5)).block, (ad267.add ((x10_1).toNat * 5)).off + 1, none⟩ = some (.int .i64 ((rd_T36 l1 x10_1).f1)) ∧ w'.cell? ⟨(ad267.add ((x10_1).toNat * 5)).block, (ad267.add ((x10_1).toNat * 5)).off + 2, none⟩ = some (.int .i64 ((rd_T36 l1 x10_1).f2)) ∧ w'.cell? ⟨(ad267.add ((x10_1).toNat * 5)).block, (ad267.add ((x10_1).toNat * 5)).off + 3, none⟩ = some (.int .i64 ((rd_T36 l1 x10_1).f3)) ∧ w'.cell? ⟨(ad267.add ((x10_1).toNat * 5)).block, (ad267.add ((x10_1).toNat * 5)).off + 4, none⟩ = some (.int .i64 ((rd_T36 l1 x10_1).f4))) (ds := []) #[false, false, false, false, false, false, false, false, false, false, false, false, false, false, false, false, false, false, false, false, false, false] (by kernel_rfl) rfl rfl ⟨(blk_cell BK266.out 0).trans rfl, (blk_cell BK266.out 1).trans rfl, (blk_cell BK266.out 2).trans rfl, (blk_cell BK266.out 3).trans rfl, (blk_cell BK266.out 4).trans rfl, (blk_cell BK266.out 5).trans rfl, (blk_cell BK268.out 0).trans rfl, (blk_cell BK268.out 1).trans rfl, (blk_cell BK268.out 2).trans rfl, (blk_cell BK268.out 3).trans rfl, (blk_cell BK268.out 4).trans rfl, ((HB.out.cell (World.block_lt_of_cell? w _ hw274_0)).trans hw274_0), ((HB.out.cell (World.block_lt_of_cell? w _ hw274_1)).trans hw274_1), ((HB.out.cell (World.block_lt_of_cell? w _ hw274_2)).trans hw274_2), ((HB.out.cell (World.block_lt_of_cell? w _ hw274_3)).trans hw274_3), ((HB.out.cell (World.block_lt_of_cell? w _ hw274_4)).trans hw274_4), ((HB.out.cell (World.block_lt_of_cell? w _ hw276_0)).trans hw276_0), ((HB.out.cell (World.block_lt_of_cell? w _ hw276_1)).trans hw276_1), ((HB.out.cell (World.block_lt_of_cell? w _ hw276_2)).trans hw276_2), ((HB.out.cell (World.block_lt_of_cell? w _ hw276_3)).trans hw276_3), ((HB.out.cell (World.block_lt_of_cell? w _ hw276_4)).trans hw276_4)⟩ (fun hHeld => ?_); refine with_tabW hopmeshref34_Fault.tab11 hopmeshref34_Fault.bits11 (fun HT_ HW_ => ?_)
             generalize wc.drew = w32 at BK266 BK268 HB hx274_0 hx274_1 hx274_2 hx274_3 hx274_4 hx276_0 hx276_1 hx276_2 hx276_3 hx276_4 hHeld ⊢
             refine pu_ HT_ 0 69 (bl 22 1) ?_
             refine pu_ HT_ 2 71 (bl 22 5) ?_
             refine pu_ HT_ 3 72 (bl 22 13) ?_
             refine pu_ HT_ 4 73 (bl 22 29) ?_
             refine pu_ HT_ 5 74 (bl 22 61) ?_
             refine pu_ HT_ 7 76 (bl 22 189) ?_
             refine pu_ HT_ 12 81 (bl 22 4285) ?_
             refine pu_ HT_ 13 82 (bl 22 12477) ?_
             refine pu_ HT_ 14 83 (bl 22 28861) ?_
             refine pu_ HT_ 15 84 (bl 22 61629) ?_
             refine pu_ HT_ 17 86 (bl 22 192701) ?_
             refine tk_ HT_ HW_ hHeld 1 70 (bl 22 192703) ?_
             refine tk_ HT_ HW_ hHeld 6 75 (bl 22 192767) ?_
             refine tk_ HT_ HW_ hHeld 8 77 (bl 22 193023) ?_
             refine tk_ HT_ HW_ hHeld 11 80 (bl 22 195071) ?_
             refine tk_ HT_ HW_ hHeld 16 85 (bl 22 260607) ?_
             refine tk_ HT_ HW_ hHeld 18 87 (bl 22 522751) ?_
             refine one_ (i := 9) (N := some 78) (bl 22 523263) rfl rfl (one_of HT_.out (by kernel_rfl)) (by decide) (fun K hK => ?_)
             refine goes_ Try.func75 (by kernel_rfl) rfl #[.agg #[.int .i64 a0_0, .slice A0_1 l0_1.length c0_1, .int .i64 a0_2, .int .i64 a0_3, .slice A0_4 l0_4.length c0_4, .slice A0_5 l0_5.length c0_5], .int .i64 ((rd_T36 l1 x10_1).f2), .int .i64 ((rd_T36 l1 a2).f3)] (by rfl) rfl rfl am_ ?_
             with_reducible refine (hopmeshref34_power.calls a0_0 _ _ l0_1 a0_2 a0_3 _ _ l0_4 _ _ l0_5 ((rd_T36 l1 x10_1).f2) ((rd_T36 l1 a2).f3) t275 _ ?side1 ?side2 ?side3 ?side4 ?side5 ?side6 A28.out).mono ?_
             (case side1 | side3 | side5 => exact cb_)
             (case side2 | side4 | side6 => first | exact HC0_1.out | exact HC0_4.out | exact HC0_5.out)
             rintro e w33 ⟨rfl, hb⟩
             refine ⟨_, rfl, ?_⟩
             have n0_ := bk_ BK266 hb
             have n1_ := bk_ BK268 hb
             have n2_ := Aside0.mk (below_step hb_ hb)
             clear BK266
             clear BK268
             clear HB
             have BK266 := n0_
             have BK268 := n1_
             have HB := n2_
             clear n0_ n1_ n2_
             (try clear hb)
             (try clear hb2)
             (try clear hk)
             (try clear hi)
             refine hK.out _ _ ⟨(blk_cell BK266.out 0).trans rfl, (blk_cell BK266.out 1).trans rfl, (blk_cell BK266.out 2).trans rfl, (blk_cell BK266.out 3).trans rfl, (blk_cell BK266.out 4).trans rfl, (blk_cell BK266.out 5).trans rfl, (blk_cell BK268.out 0).trans rfl, (blk_cell BK268.out 1).trans rfl, (blk_cell BK268.out 2).trans rfl, (blk_cell BK268.out 3).trans rfl, (blk_cell BK268.out 4).trans rfl, ((HB.out.cell (World.block_lt_of_cell? w _ hw274_0)).trans hw274_0), ((HB.out.cell (World.block_lt_of_cell? w _ hw274_1)).trans hw274_1), ((HB.out.cell (World.block_lt_of_cell? w _ hw274_2)).trans hw274_2), ((HB.out.cell (World.block_lt_of_cell? w _ hw274_3)).trans hw274_3), ((HB.out.cell (World.block_lt_of_cell? w _ hw274_4)).trans hw274_4), ((HB.out.cell (World.block_lt_of_cell? w _ hw276_0)).trans hw276_0), ((HB.out.cell (World.block_lt_of_cell? w _ hw276_1)).trans hw276_1), ((HB.out.cell (World.block_lt_of_cell? w _ hw276_2)).trans hw276_2), ((HB.out.cell (World.block_lt_of_cell? w _ hw276_3)).trans hw276_3), ((HB.out.cell (World.block_lt_of_cell? w _ hw276_4)).trans hw276_4)⟩ (fun hHeld => ?_)
             clear hK K
             refine norm_ (a' := ?_) ?_ ?_
             rotate_left
             ·
              show Act.put _ (some 78) _ = _
              simp only [ap_, s0_, s1_, i64_w]
              rfl
             refine pu_ HT_ 10 79 (bl 22 524287) ?_
             refine one_ (i := 19) (N := some 88) (bl 22 1048575) rfl rfl (one_of HT_.out (by kernel_rfl)) (by decide) (fun K hK => ?_)
             refine goes_ Try.func75 (by kernel_rfl) rfl #[.agg #[.int .i64 a0_0, .slice A0_1 l0_1.length c0_1, .int .i64 a0_2, .int .i64 a0_3, .slice A0_4 l0_4.length c0_4, .slice A0_5 l0_5.length c0_5], .int .i64 ((rd_T36 l1 x10_1).f3), .int .i64 ((rd_T36 l1 a2).f3)] (by rfl) rfl rfl am_ ?_
             with_reducible refine (hopmeshref34_power.calls a0_0 _ _ l0_1 a0_2 a0_3 _ _ l0_4 _ _ l0_5 ((rd_T36 l1 x10_1).f3) ((rd_T36 l1 a2).f3) t277 _ ?side1 ?side2 ?side3 ?side4 ?side5 ?side6 A29.out).mono ?_
             (case side1 | side3 | side5 => exact cb_)
             (case side2 | side4 | side6 => first | exact HC0_1.out | exact HC0_4.out | exact HC0_5.out)
             rintro e w34 ⟨rfl, hb⟩
             refine ⟨_, rfl, ?_⟩
             have n0_ := bk_ BK266 hb
             have n1_ := bk_ BK268 hb
             have n2_ := Aside0.mk (below_step hb_ hb)
             clear BK266
             clear BK268
             clear HB
             have BK266 := n0_
             have BK268 := n1_
             have HB := n2_
             clear n0_ n1_ n2_
             (try clear hb)
             (try clear hb2)
             (try clear hk)
             (try clear hi)
             refine hK.out _ _ ⟨(blk_cell BK266.out 0).trans rfl, (blk_cell BK266.out 1).trans rfl, (blk_cell BK266.out 2).trans rfl, (blk_cell BK266.out 3).trans rfl, (blk_cell BK266.out 4).trans rfl, (blk_cell BK266.out 5).trans rfl, (blk_cell BK268.out 0).trans rfl, (blk_cell BK268.out 1).trans rfl, (blk_cell BK268.out 2).trans rfl, (blk_cell BK268.out 3).trans rfl, (blk_cell BK268.out 4).trans rfl, ((HB.out.cell (World.block_lt_of_cell? w _ hw274_0)).trans hw274_0), ((HB.out.cell (World.block_lt_of_cell? w _ hw274_1)).trans hw274_1), ((HB.out.cell (World.block_lt_of_cell? w _ hw274_2)).trans hw274_2), ((HB.out.cell (World.block_lt_of_cell? w _ hw274_3)).trans hw274_3), ((HB.out.cell (World.block_lt_of_cell? w _ hw274_4)).trans hw274_4), ((HB.out.cell (World.block_lt_of_cell? w _ hw276_0)).trans hw276_0), ((HB.out.cell (World.block_lt_of_cell? w _ hw276_1)).trans hw276_1), ((HB.out.cell (World.block_lt_of_cell? w _ hw276_2)).trans hw276_2), ((HB.out.cell (World.block_lt_of_cell? w _ hw276_3)).trans hw276_3), ((HB.out.cell (World.block_lt_of_cell? w _ hw276_4)).trans hw276_4)⟩ (fun hHeld => ?_)
             clear hK K
             refine norm_ (a' := ?_) ?_ ?_
             rotate_left
             ·
              show Act.put _ (some 88) _ = _
              simp only [ap_, s0_, s1_, i64_w]
              rfl
             refine pu_ HT_ 20 89 (bl 22 2097151) ?_
             refine pu_ HT_ 21 8 (bl 22 4194303) ?_
             refine done_ (done_of HT_.out (by kernel_rfl)) ?_
             try go_wp2
             have n0_ := Aside0.mk (blk_drew BK266.out)
             have n1_ := Aside0.mk (blk_drew BK268.out)
             have n2_ := Aside0.mk (below_drew1 HB.out)
             clear BK266
             clear BK268
             clear HB
             have BK266 := n0_
             have BK268 := n1_
             have HB := n2_
             clear n0_ n1_ n2_
             have p278 : 0 ≤ (x10_1 : Int) := of_decide_eq_true (by assumption)
             have q278 : x10_1 < (l1.length : Int) := of_decide_eq_true (by assumption)
             obtain ⟨ad278, e278, hx278_0, hx278_1, hx278_2, hx278_3, hx278_4⟩ := at_T36 HR1.out x10_1 p278 q278
             have hw278_4 := hx278_4
             have hw278_3 := hx278_3
             have hw278_2 := hx278_2
             have hw278_1 := hx278_1
             have hw278_0 := hx278_0
             obtain rfl : ad267 = ad278 := (by injection e278)
             replace hx278_0 := (HB.out.cell (World.block_lt_of_cell? w _ hx278_0)).trans hx278_0
             replace hx278_1 := (HB.out.cell (World.block_lt_of_cell? w _ hx278_1)).trans hx278_1
             replace hx278_2 := (HB.out.cell (World.block_lt_of_cell? w _ hx278_2)).trans hx278_2
             replace hx278_3 := (HB.out.cell (World.block_lt_of_cell? w _ hx278_3)).trans hx278_3
             replace hx278_4 := (HB.out.cell (World.block_lt_of_cell? w _ hx278_4)).trans hx278_4
             replace p278 := eq_true p278
             replace q278 := eq_true q278
             have p280 : 0 ≤ (x10_1 : Int) := of_decide_eq_true (by assumption)
             have q280 : x10_1 < (l1.length : Int) := of_decide_eq_true (by assumption)
             obtain ⟨ad280, e280, hx280_0, hx280_1, hx280_2, hx280_3, hx280_4⟩ := at_T36 HR1.out x10_1 p280 q280
             have hw280_4 := hx280_4
             have hw280_3 := hx280_3
             have hw280_2 := hx280_2
             have hw280_1 := hx280_1
             have hw280_0 := hx280_0
             obtain rfl : ad267 = ad280 := (by injection e280)
             replace hx280_0 := (HB.out.cell (World.block_lt_of_cell? w _ hx280_0)).trans hx280_0
             replace hx280_1 := (HB.out.cell (World.block_lt_of_cell? w _ hx280_1)).trans hx280_1
             replace hx280_2 := (HB.out.cell (World.block_lt_of_cell? w _ hx280_2)).trans hx280_2
             replace hx280_3 := (HB.out.cell (World.block_lt_of_cell? w _ hx280_3)).trans hx280_3
             replace hx280_4 := (HB.out.cell (World.block_lt_of_cell? w _ hx280_4)).trans hx280_4
             replace p280 := eq_true p280
             replace q280 := eq_true q280
             refine start_ (n := 22) (S := fun w' => w'.cell? ⟨gb266, 0, none⟩ = some (.int .i64 a0_0) ∧ w'.cell? ⟨gb266, 1, none⟩ = some (.slice A0_1 l0_1.length c0_1) ∧ w'.cell? ⟨gb266, 2, none⟩ = some (.int .i64 a0_2) ∧ w'.cell? ⟨gb266, 3, none⟩ = some (.int .i64 a0_3) ∧ w'.cell? ⟨gb266, 4, none⟩ = some (.slice A0_4 l0_4.length c0_4) ∧ w'.cell? ⟨gb266, 5, none⟩ = some (.slice A0_5 l0_5.length c0_5) ∧ w'.cell? ⟨gb268, 0, none⟩ = some (.int .i64 ((rd_T36 l1 a2).f0)) ∧ w'.cell? ⟨gb268, 1, none⟩ = some (.int .i64 ((rd_T36 l1 a2).f1)) ∧ w'.cell? ⟨gb268, 2, none⟩ = some (.int .i64 ((rd_T36 l1 a2).f2)) ∧ w'.cell? ⟨gb268, 3, none⟩ = some (.int .i64 ((rd_T36 l1 a2).f3)) ∧ w'.cell? ⟨gb268, 4, none⟩ = some (.int .i64 ((rd_T36 l1 a2).f4)) ∧ w'.cell? (ad267.add ((x10_1).toNat * 5)) = some (.int .i64 ((rd_T36 l1 x10_1).f0)) ∧ w'.cell? ⟨(ad267.add ((x10_1).toNat * 5)).block, (ad267.add ((x10_1).toNat * 5)).off + 1, none⟩ = some (.int .i64 ((rd_T36 l1 x10_1).f1)) ∧ w'.cell? ⟨(ad267.add ((x10_1).toNat * 5)).block, (ad267.add ((x10_1).toNat * 5)).off + 2, none⟩ = some (.int .i64 ((rd_T36 l1 x10_1).f2)) ∧ w'.cell? ⟨(ad267.add ((x10_1).toNat * 5)).block, (ad267.add ((x10_1).toNat * 5)).off + 3, none⟩ = some (.int .i64 ((rd_T36 l1 x10_1).f3)) ∧ w'.cell? ⟨(ad267.add ((x10_1).toNat * 5)).block, (ad267.add ((x10_1).toNat * 5)).off + 4, none⟩ = some (.int .i64 ((rd_T36 l1 x10_1).f4)) ∧ w'.cell? (ad267.add ((x10_1).toNat * 5)) = some (.int .i64 ((rd_T36 l1 x10_1).f0)) ∧ w'.cell? ⟨(ad267.add ((x10_1).toNat * 5)).block, (ad267.add ((x10_1).toNat * 5)).off + 1, none⟩ = some (.int .i64 ((rd_T36 l1 x10_1).f1)) ∧ w'.cell? ⟨(ad267.add ((x10_1).toNat * 5)).block, (ad267.add ((x10_1).toNat * 5)).off + 2, none⟩ = some (.int .i64 ((rd_T36 l1 x10_1).f2)) ∧ w'.cell? ⟨(ad267.add ((x10_1).toNat * 5)).block, (ad267.add ((x10_1).toNat * 5)).off + 3, none⟩ = some (.int .i64 ((rd_T36 l1 x10_1).f3)) ∧ w'.cell? ⟨(ad267.add ((x10_1).toNat * 5)).block, (ad267.add ((x10_1).toNat * 5)).off + 4, none⟩ = some (.int .i64 ((rd_T36 l1 x10_1).f4))) (ds := []) #[false, false, false, false, false, false, false, false, false, false, false, false, false, false, false, false, false, false, false, false, false, false] (by kernel_rfl) rfl rfl ⟨(blk_cell BK266.out 0).trans rfl, (blk_cell BK266.out 1).trans rfl, (blk_cell BK266.out 2).trans rfl, (blk_cell BK266.out 3).trans rfl, (blk_cell BK266.out 4).trans rfl, (blk_cell BK266.out 5).trans rfl, (blk_cell BK268.out 0).trans rfl, (blk_cell BK268.out 1).trans rfl, (blk_cell BK268.out 2).trans rfl, (blk_cell BK268.out 3).trans rfl, (blk_cell BK268.out 4).trans rfl, ((HB.out.cell (World.block_lt_of_cell? w _ hw278_0)).trans hw278_0), ((HB.out.cell (World.block_lt_of_cell? w _ hw278_1)).trans hw278_1), ((HB.out.cell (World.block_lt_of_cell? w _ hw278_2)).trans hw278_2), ((HB.out.cell (World.block_lt_of_cell? w _ hw278_3)).trans hw278_3), ((HB.out.cell (World.block_lt_of_cell? w _ hw278_4)).trans hw278_4), ((HB.out.cell (World.block_lt_of_cell? w _ hw280_0)).trans hw280_0), ((HB.out.cell (World.block_lt_of_cell? w _ hw280_1)).trans hw280_1), ((HB.out.cell (World.block_lt_of_cell? w _ hw280_2)).trans hw280_2), ((HB.out.cell (World.block_lt_of_cell? w _ hw280_3)).trans hw280_3), ((HB.out.cell (World.block_lt_of_cell? w _ hw280_4)).trans hw280_4)⟩ (fun hHeld => ?_); refine with_tabW hopmeshref34_Fault.tab12 hopmeshref34_Fault.bits12 (fun HT_ HW_ => ?_)
             generalize w34.drew = w35 at BK266 BK268 HB hx278_0 hx278_1 hx278_2 hx278_3 hx278_4 hx280_0 hx280_1 hx280_2 hx280_3 hx280_4 hHeld ⊢
             refine pu_ HT_ 0 90 (bl 22 1) ?_
             refine pu_ HT_ 2 92 (bl 22 5) ?_
             refine pu_ HT_ 3 93 (bl 22 13) ?_
             refine pu_ HT_ 4 94 (bl 22 29) ?_
             refine pu_ HT_ 5 95 (bl 22 61) ?_
             refine pu_ HT_ 7 97 (bl 22 189) ?_
             refine pu_ HT_ 12 102 (bl 22 4285) ?_
             refine pu_ HT_ 13 103 (bl 22 12477) ?_
             refine pu_ HT_ 14 104 (bl 22 28861) ?_
             refine pu_ HT_ 15 105 (bl 22 61629) ?_
             refine pu_ HT_ 17 107 (bl 22 192701) ?_
             refine tk_ HT_ HW_ hHeld 1 91 (bl 22 192703) ?_
             refine tk_ HT_ HW_ hHeld 6 96 (bl 22 192767) ?_
             refine tk_ HT_ HW_ hHeld 8 98 (bl 22 193023) ?_
             refine tk_ HT_ HW_ hHeld 11 101 (bl 22 195071) ?_
             refine tk_ HT_ HW_ hHeld 16 106 (bl 22 260607) ?_
             refine tk_ HT_ HW_ hHeld 18 108 (bl 22 522751) ?_
             refine one_ (i := 9) (N := some 99) (bl 22 523263) rfl rfl (one_of HT_.out (by kernel_rfl)) (by decide) (fun K hK => ?_)
             refine goes_ Try.func75 (by kernel_rfl) rfl #[.agg #[.int .i64 a0_0, .slice A0_1 l0_1.length c0_1, .int .i64 a0_2, .int .i64 a0_3, .slice A0_4 l0_4.length c0_4, .slice A0_5 l0_5.length c0_5], .int .i64 ((rd_T36 l1 x10_1).f2), .int .i64 ((rd_T36 l1 a2).f2)] (by rfl) rfl rfl am_ ?_
             with_reducible refine (hopmeshref34_power.calls a0_0 _ _ l0_1 a0_2 a0_3 _ _ l0_4 _ _ l0_5 ((rd_T36 l1 x10_1).f2) ((rd_T36 l1 a2).f2) t279 _ ?side1 ?side2 ?side3 ?side4 ?side5 ?side6 A30.out).mono ?_
             (case side1 | side3 | side5 => exact cb_)
             (case side2 | side4 | side6 => first | exact HC0_1.out | exact HC0_4.out | exact HC0_5.out)
             rintro e w36 ⟨rfl, hb⟩
             refine ⟨_, rfl, ?_⟩
             have n0_ := bk_ BK266 hb
             have n1_ := bk_ BK268 hb
             have n2_ := Aside0.mk (below_step hb_ hb)
             clear BK266
             clear BK268
             clear HB
             have BK266 := n0_
             have BK268 := n1_
             have HB := n2_
             clear n0_ n1_ n2_
             (try clear hb)
             (try clear hb2)
             (try clear hk)
             (try clear hi)
             refine hK.out _ _ ⟨(blk_cell BK266.out 0).trans rfl, (blk_cell BK266.out 1).trans rfl, (blk_cell BK266.out 2).trans rfl, (blk_cell BK266.out 3).trans rfl, (blk_cell BK266.out 4).trans rfl, (blk_cell BK266.out 5).trans rfl, (blk_cell BK268.out 0).trans rfl, (blk_cell BK268.out 1).trans rfl, (blk_cell BK268.out 2).trans rfl, (blk_cell BK268.out 3).trans rfl, (blk_cell BK268.out 4).trans rfl, ((HB.out.cell (World.block_lt_of_cell? w _ hw278_0)).trans hw278_0), ((HB.out.cell (World.block_lt_of_cell? w _ hw278_1)).trans hw278_1), ((HB.out.cell (World.block_lt_of_cell? w _ hw278_2)).trans hw278_2), ((HB.out.cell (World.block_lt_of_cell? w _ hw278_3)).trans hw278_3), ((HB.out.cell (World.block_lt_of_cell? w _ hw278_4)).trans hw278_4), ((HB.out.cell (World.block_lt_of_cell? w _ hw280_0)).trans hw280_0), ((HB.out.cell (World.block_lt_of_cell? w _ hw280_1)).trans hw280_1), ((HB.out.cell (World.block_lt_of_cell? w _ hw280_2)).trans hw280_2), ((HB.out.cell (World.block_lt_of_cell? w _ hw280_3)).trans hw280_3), ((HB.out.cell (World.block_lt_of_cell? w _ hw280_4)).trans hw280_4)⟩ (fun hHeld => ?_)
             clear hK K
             refine norm_ (a' := ?_) ?_ ?_
             rotate_left
             ·
              show Act.put _ (some 99) _ = _
              simp only [ap_, s0_, s1_, i64_w]
              rfl
             refine pu_ HT_ 10 100 (bl 22 524287) ?_
             refine one_ (i := 19) (N := some 109) (bl 22 1048575) rfl rfl (one_of HT_.out (by kernel_rfl)) (by decide) (fun K hK => ?_)
             refine goes_ Try.func75 (by kernel_rfl) rfl #[.agg #[.int .i64 a0_0, .slice A0_1 l0_1.length c0_1, .int .i64 a0_2, .int .i64 a0_3, .slice A0_4 l0_4.length c0_4, .slice A0_5 l0_5.length c0_5], .int .i64 ((rd_T36 l1 x10_1).f3), .int .i64 ((rd_T36 l1 a2).f2)] (by rfl) rfl rfl am_ ?_
             with_reducible refine (hopmeshref34_power.calls a0_0 _ _ l0_1 a0_2 a0_3 _ _ l0_4 _ _ l0_5 ((rd_T36 l1 x10_1).f3) ((rd_T36 l1 a2).f2) t281 _ ?side1 ?side2 ?side3 ?side4 ?side5 ?side6 A31.out).mono ?_
             (case side1 | side3 | side5 => exact cb_)
             (case side2 | side4 | side6 => first | exact HC0_1.out | exact HC0_4.out | exact HC0_5.out)
             rintro e w37 ⟨rfl, hb⟩
             refine ⟨_, rfl, ?_⟩
             have n0_ := bk_ BK266 hb
             have n1_ := bk_ BK268 hb
             have n2_ := Aside0.mk (below_step hb_ hb)
             clear BK266
             clear BK268
             clear HB
             have BK266 := n0_
             have BK268 := n1_
             have HB := n2_
             clear n0_ n1_ n2_
             (try clear hb)
             (try clear hb2)
             (try clear hk)
             (try clear hi)
             refine hK.out _ _ ⟨(blk_cell BK266.out 0).trans rfl, (blk_cell BK266.out 1).trans rfl, (blk_cell BK266.out 2).trans rfl, (blk_cell BK266.out 3).trans rfl, (blk_cell BK266.out 4).trans rfl, (blk_cell BK266.out 5).trans rfl, (blk_cell BK268.out 0).trans rfl, (blk_cell BK268.out 1).trans rfl, (blk_cell BK268.out 2).trans rfl, (blk_cell BK268.out 3).trans rfl, (blk_cell BK268.out 4).trans rfl, ((HB.out.cell (World.block_lt_of_cell? w _ hw278_0)).trans hw278_0), ((HB.out.cell (World.block_lt_of_cell? w _ hw278_1)).trans hw278_1), ((HB.out.cell (World.block_lt_of_cell? w _ hw278_2)).trans hw278_2), ((HB.out.cell (World.block_lt_of_cell? w _ hw278_3)).trans hw278_3), ((HB.out.cell (World.block_lt_of_cell? w _ hw278_4)).trans hw278_4), ((HB.out.cell (World.block_lt_of_cell? w _ hw280_0)).trans hw280_0), ((HB.out.cell (World.block_lt_of_cell? w _ hw280_1)).trans hw280_1), ((HB.out.cell (World.block_lt_of_cell? w _ hw280_2)).trans hw280_2), ((HB.out.cell (World.block_lt_of_cell? w _ hw280_3)).trans hw280_3), ((HB.out.cell (World.block_lt_of_cell? w _ hw280_4)).trans hw280_4)⟩ (fun hHeld => ?_)
             clear hK K
             refine norm_ (a' := ?_) ?_ ?_
             rotate_left
             ·
              show Act.put _ (some 109) _ = _
              simp only [ap_, s0_, s1_, i64_w]
              rfl
             refine pu_ HT_ 20 110 (bl 22 2097151) ?_
             refine pu_ HT_ 21 9 (bl 22 4194303) ?_
             refine done_ (done_of HT_.out (by kernel_rfl)) ?_
             try go_wp2
             go_roundg kj15
             case measure => have := HK1.out; have := HJ15.out; omega
             case rel => exact ⟨(wrap64 ((wrap64 (x8_1 + t275)) + t277)), (wrap64 ((wrap64 (x9_1 + t279)) + t281)), (wrap64 (x10_1 + 1)), rl_, rl_, rl_, H', ⟨by have := HK1.out; have := HJ15.out; omega⟩, ⟨bj_ BK266⟩, ⟨bj_ BK268⟩, ⟨hb_⟩⟩
            ·
             rw [if_neg c27] at H
             exact absurd H (by simp)
           ·
            rw [if_neg c26] at H
            exact absurd H (by simp)
      ·
       rw [if_neg c14] at H
       have c14b0 : decide (x10_1 < (l1.length : Int)) = false := decide_eq_false c14
       clear c14
       replace H := Option.bind_eq_some_iff.mp H
       obtain ⟨t282, A380, H⟩ := H
       replace H : (if 0 ≤ t282 then (if t282 < (l0_5.length : Int) then ((hopmeshref31_Heard.f a0_0 l0_1 a0_2 a0_3 l0_4 l0_5 (rd l0_5 t282) x8_1).bind fun t284 => (if t284 = true then ((hopmeshref31_Find.f k1 a0_0 l0_1 a0_2 a0_3 l0_4 l0_5 ((rd_T36 l1 a2).f3) ((rd_T36 l1 a2).f2)).bind fun t285 => (if 0 ≤ t285 then (if t285 < (l0_5.length : Int) then ((hopmeshref31_Heard.f a0_0 l0_1 a0_2 a0_3 l0_4 l0_5 (rd l0_5 t285) x9_1).bind fun t287 => (some (!t287))) else (none)) else (none))) else (some true))) else (none)) else (none)) = some r := H
       have A38 := Aside0.mk A380
       clear A380
       by_cases c39 : 0 ≤ t282
       ·
        rw [if_pos c39] at H
        have c39b0 : decide (0 ≤ t282) = true := decide_eq_true c39
        clear c39
        by_cases c40 : t282 < (l0_5.length : Int)
        ·
         rw [if_pos c40] at H
         have c40b0 : decide (t282 < (l0_5.length : Int)) = true := decide_eq_true c40
         clear c40
         replace H := Option.bind_eq_some_iff.mp H
         obtain ⟨t284, A410, H⟩ := H
         replace H : (if t284 = true then ((hopmeshref31_Find.f k1 a0_0 l0_1 a0_2 a0_3 l0_4 l0_5 ((rd_T36 l1 a2).f3) ((rd_T36 l1 a2).f2)).bind fun t285 => (if 0 ≤ t285 then (if t285 < (l0_5.length : Int) then ((hopmeshref31_Heard.f a0_0 l0_1 a0_2 a0_3 l0_4 l0_5 (rd l0_5 t285) x9_1).bind fun t287 => (some (!t287))) else (none)) else (none))) else (some true)) = some r := H
         have A41 := Aside0.mk A410
         clear A410
         by_cases c42 : t284 = true
         ·
          subst c42
          have H1 : ((hopmeshref31_Find.f k1 a0_0 l0_1 a0_2 a0_3 l0_4 l0_5 ((rd_T36 l1 a2).f3) ((rd_T36 l1 a2).f2)).bind fun t285 => (if 0 ≤ t285 then (if t285 < (l0_5.length : Int) then ((hopmeshref31_Heard.f a0_0 l0_1 a0_2 a0_3 l0_4 l0_5 (rd l0_5 t285) x9_1).bind fun t287 => (some (!t287))) else (none)) else (none))) = some r := by rw [if_pos rfl] at H; exact H
          clear H
          have H := H1
          clear H1
          replace H := Option.bind_eq_some_iff.mp H
          obtain ⟨t285, A430, H⟩ := H
          replace H : (if 0 ≤ t285 then (if t285 < (l0_5.length : Int) then ((hopmeshref31_Heard.f a0_0 l0_1 a0_2 a0_3 l0_4 l0_5 (rd l0_5 t285) x9_1).bind fun t287 => (some (!t287))) else (none)) else (none)) = some r := H
          have A43 := Aside0.mk A430
          clear A430
          by_cases c44 : 0 ≤ t285
          ·
           rw [if_pos c44] at H
           have c44b0 : decide (0 ≤ t285) = true := decide_eq_true c44
           clear c44
           by_cases c45 : t285 < (l0_5.length : Int)
           ·
            rw [if_pos c45] at H
            have c45b0 : decide (t285 < (l0_5.length : Int)) = true := decide_eq_true c45
            clear c45
            replace H := Option.bind_eq_some_iff.mp H
            obtain ⟨t287, A460, H⟩ := H
            replace H : (some (!t287)) = some r := H
            have A46 := Aside0.mk A460
            clear A460
            obtain rfl := Option.some.inj H
            try go_wp2
            have n0_ := Aside0.mk (blk_drew BK266.out)
            have n1_ := Aside0.mk (blk_drew BK268.out)
            have n2_ := Aside0.mk (below_drew1 HB.out)
            clear BK266
            clear BK268
            clear HB
            have BK266 := n0_
            have BK268 := n1_
            have HB := n2_
            clear n0_ n1_ n2_
            have p283 : 0 ≤ (t282 : Int) := of_decide_eq_true (by assumption)
            have q283 : t282 < (l0_5.length : Int) := of_decide_eq_true (by assumption)
            obtain ⟨ad283, e283, hx283_0⟩ := Kd.at_int HR0_5.out t282 p283 q283
            have hw283_0 := hx283_0
            cases e283
            replace hx283_0 := (HB.out.cell (World.block_lt_of_cell? w _ hx283_0)).trans hx283_0
            replace p283 := eq_true p283
            replace q283 := eq_true q283
            have p286 : 0 ≤ (t285 : Int) := of_decide_eq_true (by assumption)
            have q286 : t285 < (l0_5.length : Int) := of_decide_eq_true (by assumption)
            obtain ⟨ad286, e286, hx286_0⟩ := Kd.at_int HR0_5.out t285 p286 q286
            have hw286_0 := hx286_0
            obtain rfl : ad283 = ad286 := (by injection e286)
            replace hx286_0 := (HB.out.cell (World.block_lt_of_cell? w _ hx286_0)).trans hx286_0
            replace p286 := eq_true p286
            replace q286 := eq_true q286
            refine start_ (n := 31) (S := fun w' => w'.cell? ⟨gb266, 0, none⟩ = some (.int .i64 a0_0) ∧ w'.cell? ⟨gb266, 1, none⟩ = some (.slice A0_1 l0_1.length c0_1) ∧ w'.cell? ⟨gb266, 2, none⟩ = some (.int .i64 a0_2) ∧ w'.cell? ⟨gb266, 3, none⟩ = some (.int .i64 a0_3) ∧ w'.cell? ⟨gb266, 4, none⟩ = some (.slice A0_4 l0_4.length c0_4) ∧ w'.cell? ⟨gb266, 5, none⟩ = some (.slice (some ad283) l0_5.length c0_5) ∧ w'.cell? ⟨gb268, 0, none⟩ = some (.int .i64 ((rd_T36 l1 a2).f0)) ∧ w'.cell? ⟨gb268, 1, none⟩ = some (.int .i64 ((rd_T36 l1 a2).f1)) ∧ w'.cell? ⟨gb268, 2, none⟩ = some (.int .i64 ((rd_T36 l1 a2).f2)) ∧ w'.cell? ⟨gb268, 3, none⟩ = some (.int .i64 ((rd_T36 l1 a2).f3)) ∧ w'.cell? ⟨gb268, 4, none⟩ = some (.int .i64 ((rd_T36 l1 a2).f4)) ∧ w'.cell? (ad283.add (t282).toNat) = some (.int .i64 (rd l0_5 t282)) ∧ w'.cell? (ad283.add (t285).toNat) = some (.int .i64 (rd l0_5 t285))) (ds := []) #[false, false, false, false, false, false, false, false, false, false, false, false, false, false, false, false, false, false, false, false, false, false, false, false, false, false, false, false, false, false, false] (by kernel_rfl) rfl rfl ⟨(blk_cell BK266.out 0).trans rfl, (blk_cell BK266.out 1).trans rfl, (blk_cell BK266.out 2).trans rfl, (blk_cell BK266.out 3).trans rfl, (blk_cell BK266.out 4).trans rfl, (blk_cell BK266.out 5).trans rfl, (blk_cell BK268.out 0).trans rfl, (blk_cell BK268.out 1).trans rfl, (blk_cell BK268.out 2).trans rfl, (blk_cell BK268.out 3).trans rfl, (blk_cell BK268.out 4).trans rfl, ((HB.out.cell (World.block_lt_of_cell? w _ hw283_0)).trans hw283_0), ((HB.out.cell (World.block_lt_of_cell? w _ hw286_0)).trans hw286_0)⟩ (fun hHeld => ?_); refine with_tabW hopmeshref34_Fault.tab13 hopmeshref34_Fault.bits13 (fun HT_ HW_ => ?_)
            generalize wr.drew = w47 at BK266 BK268 HB hx283_0 hx286_0 hHeld ⊢
            refine pu_ HT_ 1 112 (bl 31 2) ?_
            refine pu_ HT_ 4 115 (bl 31 18) ?_
            refine pu_ HT_ 6 117 (bl 31 82) ?_
            refine pu_ HT_ 11 122 (bl 31 2130) ?_
            refine tk_ HT_ HW_ hHeld 0 111 (bl 31 2131) ?_
            refine tk_ HT_ HW_ hHeld 2 113 (bl 31 2135) ?_
            refine tk_ HT_ HW_ hHeld 3 114 (bl 31 2143) ?_
            refine tk_ HT_ HW_ hHeld 5 116 (bl 31 2175) ?_
            refine tk_ HT_ HW_ hHeld 7 118 (bl 31 2303) ?_
            refine one_ (i := 8) (N := some 119) (bl 31 2559) rfl rfl (one_of HT_.out (by kernel_rfl)) (by decide) (fun K hK => ?_)
            refine goes_ Try.func77 (by kernel_rfl) rfl #[.agg #[.int .i64 a0_0, .slice A0_1 l0_1.length c0_1, .int .i64 a0_2, .int .i64 a0_3, .slice A0_4 l0_4.length c0_4, .slice (some ad283) l0_5.length c0_5], .int .i64 ((rd_T36 l1 a2).f2), .int .i64 ((rd_T36 l1 a2).f3)] (by rfl) rfl rfl am_ ?_
            with_reducible refine (hopmeshref31_Find.calls k1 a0_0 _ _ l0_1 a0_2 a0_3 _ _ l0_4 _ _ l0_5 ((rd_T36 l1 a2).f2) ((rd_T36 l1 a2).f3) t282 _ ?side1 ?side2 ?side3 ?side4 ?side5 ?side6 A38.out).mono ?_
            (case side1 | side3 | side5 => exact cb_)
            (case side2 | side4 | side6 => first | exact HC0_1.out | exact HC0_4.out | exact HC0_5.out)
            rintro e w48 ⟨rfl, hb⟩
            refine ⟨_, rfl, ?_⟩
            have n0_ := bk_ BK266 hb
            have n1_ := bk_ BK268 hb
            have n2_ := Aside0.mk (below_step hb_ hb)
            clear BK266
            clear BK268
            clear HB
            have BK266 := n0_
            have BK268 := n1_
            have HB := n2_
            clear n0_ n1_ n2_
            (try clear hb)
            (try clear hb2)
            (try clear hk)
            (try clear hi)
            refine hK.out _ _ ⟨(blk_cell BK266.out 0).trans rfl, (blk_cell BK266.out 1).trans rfl, (blk_cell BK266.out 2).trans rfl, (blk_cell BK266.out 3).trans rfl, (blk_cell BK266.out 4).trans rfl, (blk_cell BK266.out 5).trans rfl, (blk_cell BK268.out 0).trans rfl, (blk_cell BK268.out 1).trans rfl, (blk_cell BK268.out 2).trans rfl, (blk_cell BK268.out 3).trans rfl, (blk_cell BK268.out 4).trans rfl, ((HB.out.cell (World.block_lt_of_cell? w _ hw283_0)).trans hw283_0), ((HB.out.cell (World.block_lt_of_cell? w _ hw286_0)).trans hw286_0)⟩ (fun hHeld => ?_)
            clear hK K
            refine norm_ (a' := ?_) ?_ ?_
            rotate_left
            ·
             show Act.put _ (some 119) _ = _
             simp only [ap_, s0_, s1_, i64_w]
             rfl
            refine pu_ HT_ 9 120 (bl 31 3071) ?_
            refine tk_ HT_ HW_ hHeld 10 121 (bl 31 4095) ?_
            refine one_ (i := 12) (N := some 123) (bl 31 8191) rfl rfl (one_of HT_.out (by kernel_rfl)) (by decide) (fun K hK => ?_)
            refine goes_ Try.func76 (by kernel_rfl) rfl #[.agg #[.int .i64 a0_0, .slice A0_1 l0_1.length c0_1, .int .i64 a0_2, .int .i64 a0_3, .slice A0_4 l0_4.length c0_4, .slice (some ad283) l0_5.length c0_5], .int .i64 (rd l0_5 t282), .int .i64 x8_1] (by rfl) rfl rfl am_ ?_
            with_reducible refine (hopmeshref31_Heard.calls a0_0 _ _ l0_1 a0_2 a0_3 _ _ l0_4 _ _ l0_5 (rd l0_5 t282) x8_1 true _ ?side1 ?side2 ?side3 ?side4 ?side5 ?side6 A41.out).mono ?_
            (case side1 | side3 | side5 => exact cb_)
            (case side2 | side4 | side6 => first | exact HC0_1.out | exact HC0_4.out | exact HC0_5.out)
            rintro e w49 ⟨rfl, hb⟩
            refine ⟨_, rfl, ?_⟩
            have n0_ := bk_ BK266 hb
            have n1_ := bk_ BK268 hb
            have n2_ := Aside0.mk (below_step hb_ hb)
            clear BK266
            clear BK268
            clear HB
            have BK266 := n0_
            have BK268 := n1_
            have HB := n2_
            clear n0_ n1_ n2_
            (try clear hb)
            (try clear hb2)
            (try clear hk)
            (try clear hi)
            refine hK.out _ _ ⟨(blk_cell BK266.out 0).trans rfl, (blk_cell BK266.out 1).trans rfl, (blk_cell BK266.out 2).trans rfl, (blk_cell BK266.out 3).trans rfl, (blk_cell BK266.out 4).trans rfl, (blk_cell BK266.out 5).trans rfl, (blk_cell BK268.out 0).trans rfl, (blk_cell BK268.out 1).trans rfl, (blk_cell BK268.out 2).trans rfl, (blk_cell BK268.out 3).trans rfl, (blk_cell BK268.out 4).trans rfl, ((HB.out.cell (World.block_lt_of_cell? w _ hw283_0)).trans hw283_0), ((HB.out.cell (World.block_lt_of_cell? w _ hw286_0)).trans hw286_0)⟩ (fun hHeld => ?_)
            clear hK K
            refine norm_ (a' := ?_) ?_ ?_
            rotate_left
            ·
             show Act.put _ (some 123) _ = _
             simp only [ap_, s0_, s1_, i64_w]
             rfl
            refine pu_ HT_ 13 124 (bl 31 16383) ?_
            refine pu_ HT_ 14 125 (bl 31 32767) ?_
            refine pu_ HT_ 16 127 (bl 31 98303) ?_
            refine pu_ HT_ 19 130 (bl 31 622591) ?_
            refine pu_ HT_ 21 132 (bl 31 2719743) ?_
            refine pu_ HT_ 26 137 (bl 31 69828607) ?_
            refine tk_ HT_ HW_ hHeld 15 126 (bl 31 69861375) ?_
            refine tk_ HT_ HW_ hHeld 17 128 (bl 31 69992447) ?_
            refine tk_ HT_ HW_ hHeld 18 129 (bl 31 70254591) ?_
            refine tk_ HT_ HW_ hHeld 20 131 (bl 31 71303167) ?_
            refine tk_ HT_ HW_ hHeld 22 133 (bl 31 75497471) ?_
            refine one_ (i := 23) (N := some 134) (bl 31 83886079) rfl rfl (one_of HT_.out (by kernel_rfl)) (by decide) (fun K hK => ?_)
            refine goes_ Try.func77 (by kernel_rfl) rfl #[.agg #[.int .i64 a0_0, .slice A0_1 l0_1.length c0_1, .int .i64 a0_2, .int .i64 a0_3, .slice A0_4 l0_4.length c0_4, .slice (some ad283) l0_5.length c0_5], .int .i64 ((rd_T36 l1 a2).f3), .int .i64 ((rd_T36 l1 a2).f2)] (by rfl) rfl rfl am_ ?_
            with_reducible refine (hopmeshref31_Find.calls k1 a0_0 _ _ l0_1 a0_2 a0_3 _ _ l0_4 _ _ l0_5 ((rd_T36 l1 a2).f3) ((rd_T36 l1 a2).f2) t285 _ ?side1 ?side2 ?side3 ?side4 ?side5 ?side6 A43.out).mono ?_
            (case side1 | side3 | side5 => exact cb_)
            (case side2 | side4 | side6 => first | exact HC0_1.out | exact HC0_4.out | exact HC0_5.out)
            rintro e w50 ⟨rfl, hb⟩
            refine ⟨_, rfl, ?_⟩
            have n0_ := bk_ BK266 hb
            have n1_ := bk_ BK268 hb
            have n2_ := Aside0.mk (below_step hb_ hb)
            clear BK266
            clear BK268
            clear HB
            have BK266 := n0_
            have BK268 := n1_
            have HB := n2_
            clear n0_ n1_ n2_
            (try clear hb)
            (try clear hb2)
            (try clear hk)
            (try clear hi)
            refine hK.out _ _ ⟨(blk_cell BK266.out 0).trans rfl, (blk_cell BK266.out 1).trans rfl, (blk_cell BK266.out 2).trans rfl, (blk_cell BK266.out 3).trans rfl, (blk_cell BK266.out 4).trans rfl, (blk_cell BK266.out 5).trans rfl, (blk_cell BK268.out 0).trans rfl, (blk_cell BK268.out 1).trans rfl, (blk_cell BK268.out 2).trans rfl, (blk_cell BK268.out 3).trans rfl, (blk_cell BK268.out 4).trans rfl, ((HB.out.cell (World.block_lt_of_cell? w _ hw283_0)).trans hw283_0), ((HB.out.cell (World.block_lt_of_cell? w _ hw286_0)).trans hw286_0)⟩ (fun hHeld => ?_)
            clear hK K
            refine norm_ (a' := ?_) ?_ ?_
            rotate_left
            ·
             show Act.put _ (some 134) _ = _
             simp only [ap_, s0_, s1_, i64_w]
             rfl
            refine pu_ HT_ 24 135 (bl 31 100663295) ?_
            refine tk_ HT_ HW_ hHeld 25 136 (bl 31 134217727) ?_
            refine one_ (i := 27) (N := some 138) (bl 31 268435455) rfl rfl (one_of HT_.out (by kernel_rfl)) (by decide) (fun K hK => ?_)
            refine goes_ Try.func76 (by kernel_rfl) rfl #[.agg #[.int .i64 a0_0, .slice A0_1 l0_1.length c0_1, .int .i64 a0_2, .int .i64 a0_3, .slice A0_4 l0_4.length c0_4, .slice (some ad283) l0_5.length c0_5], .int .i64 (rd l0_5 t285), .int .i64 x9_1] (by rfl) rfl rfl am_ ?_
            with_reducible refine (hopmeshref31_Heard.calls a0_0 _ _ l0_1 a0_2 a0_3 _ _ l0_4 _ _ l0_5 (rd l0_5 t285) x9_1 t287 _ ?side1 ?side2 ?side3 ?side4 ?side5 ?side6 A46.out).mono ?_
            (case side1 | side3 | side5 => exact cb_)
            (case side2 | side4 | side6 => first | exact HC0_1.out | exact HC0_4.out | exact HC0_5.out)
            rintro e w51 ⟨rfl, hb⟩
            refine ⟨_, rfl, ?_⟩
            have n0_ := bk_ BK266 hb
            have n1_ := bk_ BK268 hb
            have n2_ := Aside0.mk (below_step hb_ hb)
            clear BK266
            clear BK268
            clear HB
            have BK266 := n0_
            have BK268 := n1_
            have HB := n2_
            clear n0_ n1_ n2_
            (try clear hb)
            (try clear hb2)
            (try clear hk)
            (try clear hi)
            refine hK.out _ _ ⟨(blk_cell BK266.out 0).trans rfl, (blk_cell BK266.out 1).trans rfl, (blk_cell BK266.out 2).trans rfl, (blk_cell BK266.out 3).trans rfl, (blk_cell BK266.out 4).trans rfl, (blk_cell BK266.out 5).trans rfl, (blk_cell BK268.out 0).trans rfl, (blk_cell BK268.out 1).trans rfl, (blk_cell BK268.out 2).trans rfl, (blk_cell BK268.out 3).trans rfl, (blk_cell BK268.out 4).trans rfl, ((HB.out.cell (World.block_lt_of_cell? w _ hw283_0)).trans hw283_0), ((HB.out.cell (World.block_lt_of_cell? w _ hw286_0)).trans hw286_0)⟩ (fun hHeld => ?_)
            clear hK K
            refine norm_ (a' := ?_) ?_ ?_
            rotate_left
            ·
             show Act.put _ (some 138) _ = _
             simp only [ap_, s0_, s1_, i64_w]
             rfl
            refine pu_ HT_ 28 139 (bl 31 536870911) ?_
            refine pu_ HT_ 29 140 (bl 31 1073741823) ?_
            refine pu_ HT_ 30 6 (bl 31 2147483647) ?_
            refine done_ (done_of HT_.out (by kernel_rfl)) ?_
            try go_wp2
            go_ret
            exact ⟨er_, hb_⟩
           ·
            rw [if_neg c45] at H
            exact absurd H (by simp)
          ·
           rw [if_neg c44] at H
           exact absurd H (by simp)
         ·
          replace c42 := Bool.eq_false_iff.mpr c42
          subst c42
          have H1 : (some true) = some r := by rw [if_neg (show ¬ (false = true) by decide)] at H; exact H
          clear H
          have H := H1
          clear H1
          obtain rfl := Option.some.inj H
          try go_wp2
          have n0_ := Aside0.mk (blk_drew BK266.out)
          have n1_ := Aside0.mk (blk_drew BK268.out)
          have n2_ := Aside0.mk (below_drew1 HB.out)
          clear BK266
          clear BK268
          clear HB
          have BK266 := n0_
          have BK268 := n1_
          have HB := n2_
          clear n0_ n1_ n2_
          have p283 : 0 ≤ (t282 : Int) := of_decide_eq_true (by assumption)
          have q283 : t282 < (l0_5.length : Int) := of_decide_eq_true (by assumption)
          obtain ⟨ad283, e283, hx283_0⟩ := Kd.at_int HR0_5.out t282 p283 q283
          have hw283_0 := hx283_0
          cases e283
          replace hx283_0 := (HB.out.cell (World.block_lt_of_cell? w _ hx283_0)).trans hx283_0
          replace p283 := eq_true p283
          replace q283 := eq_true q283
          refine start_ (n := 31) (S := fun w' => w'.cell? ⟨gb266, 0, none⟩ = some (.int .i64 a0_0) ∧ w'.cell? ⟨gb266, 1, none⟩ = some (.slice A0_1 l0_1.length c0_1) ∧ w'.cell? ⟨gb266, 2, none⟩ = some (.int .i64 a0_2) ∧ w'.cell? ⟨gb266, 3, none⟩ = some (.int .i64 a0_3) ∧ w'.cell? ⟨gb266, 4, none⟩ = some (.slice A0_4 l0_4.length c0_4) ∧ w'.cell? ⟨gb266, 5, none⟩ = some (.slice (some ad283) l0_5.length c0_5) ∧ w'.cell? ⟨gb268, 0, none⟩ = some (.int .i64 ((rd_T36 l1 a2).f0)) ∧ w'.cell? ⟨gb268, 1, none⟩ = some (.int .i64 ((rd_T36 l1 a2).f1)) ∧ w'.cell? ⟨gb268, 2, none⟩ = some (.int .i64 ((rd_T36 l1 a2).f2)) ∧ w'.cell? ⟨gb268, 3, none⟩ = some (.int .i64 ((rd_T36 l1 a2).f3)) ∧ w'.cell? ⟨gb268, 4, none⟩ = some (.int .i64 ((rd_T36 l1 a2).f4)) ∧ w'.cell? (ad283.add (t282).toNat) = some (.int .i64 (rd l0_5 t282))) (ds := []) #[false, false, false, false, false, false, false, false, false, false, false, false, false, false, false, false, false, false, false, false, false, false, false, false, false, false, false, false, false, false, false] (by kernel_rfl) rfl rfl ⟨(blk_cell BK266.out 0).trans rfl, (blk_cell BK266.out 1).trans rfl, (blk_cell BK266.out 2).trans rfl, (blk_cell BK266.out 3).trans rfl, (blk_cell BK266.out 4).trans rfl, (blk_cell BK266.out 5).trans rfl, (blk_cell BK268.out 0).trans rfl, (blk_cell BK268.out 1).trans rfl, (blk_cell BK268.out 2).trans rfl, (blk_cell BK268.out 3).trans rfl, (blk_cell BK268.out 4).trans rfl, ((HB.out.cell (World.block_lt_of_cell? w _ hw283_0)).trans hw283_0)⟩ (fun hHeld => ?_); refine with_tabW hopmeshref34_Fault.tab13 hopmeshref34_Fault.bits13 (fun HT_ HW_ => ?_)
          generalize wr.drew = w52 at BK266 BK268 HB hx283_0 hHeld ⊢
          refine pu_ HT_ 1 112 (bl 31 2) ?_
          refine pu_ HT_ 4 115 (bl 31 18) ?_
          refine pu_ HT_ 6 117 (bl 31 82) ?_
          refine pu_ HT_ 11 122 (bl 31 2130) ?_
          refine tk_ HT_ HW_ hHeld 0 111 (bl 31 2131) ?_
          refine tk_ HT_ HW_ hHeld 2 113 (bl 31 2135) ?_
          refine tk_ HT_ HW_ hHeld 3 114 (bl 31 2143) ?_
          refine tk_ HT_ HW_ hHeld 5 116 (bl 31 2175) ?_
          refine tk_ HT_ HW_ hHeld 7 118 (bl 31 2303) ?_
          refine one_ (i := 8) (N := some 119) (bl 31 2559) rfl rfl (one_of HT_.out (by kernel_rfl)) (by decide) (fun K hK => ?_)
          refine goes_ Try.func77 (by kernel_rfl) rfl #[.agg #[.int .i64 a0_0, .slice A0_1 l0_1.length c0_1, .int .i64 a0_2, .int .i64 a0_3, .slice A0_4 l0_4.length c0_4, .slice (some ad283) l0_5.length c0_5], .int .i64 ((rd_T36 l1 a2).f2), .int .i64 ((rd_T36 l1 a2).f3)] (by rfl) rfl rfl am_ ?_
          with_reducible refine (hopmeshref31_Find.calls k1 a0_0 _ _ l0_1 a0_2 a0_3 _ _ l0_4 _ _ l0_5 ((rd_T36 l1 a2).f2) ((rd_T36 l1 a2).f3) t282 _ ?side1 ?side2 ?side3 ?side4 ?side5 ?side6 A38.out).mono ?_
          (case side1 | side3 | side5 => exact cb_)
          (case side2 | side4 | side6 => first | exact HC0_1.out | exact HC0_4.out | exact HC0_5.out)
          rintro e w53 ⟨rfl, hb⟩
          refine ⟨_, rfl, ?_⟩
          have n0_ := bk_ BK266 hb
          have n1_ := bk_ BK268 hb
          have n2_ := Aside0.mk (below_step hb_ hb)
          clear BK266
          clear BK268
          clear HB
          have BK266 := n0_
          have BK268 := n1_
          have HB := n2_
          clear n0_ n1_ n2_
          (try clear hb)
          (try clear hb2)
          (try clear hk)
          (try clear hi)
          refine hK.out _ _ ⟨(blk_cell BK266.out 0).trans rfl, (blk_cell BK266.out 1).trans rfl, (blk_cell BK266.out 2).trans rfl, (blk_cell BK266.out 3).trans rfl, (blk_cell BK266.out 4).trans rfl, (blk_cell BK266.out 5).trans rfl, (blk_cell BK268.out 0).trans rfl, (blk_cell BK268.out 1).trans rfl, (blk_cell BK268.out 2).trans rfl, (blk_cell BK268.out 3).trans rfl, (blk_cell BK268.out 4).trans rfl, ((HB.out.cell (World.block_lt_of_cell? w _ hw283_0)).trans hw283_0)⟩ (fun hHeld => ?_)
          clear hK K
          refine norm_ (a' := ?_) ?_ ?_
          rotate_left
          ·
           show Act.put _ (some 119) _ = _
           simp only [ap_, s0_, s1_, i64_w]
           rfl
          refine pu_ HT_ 9 120 (bl 31 3071) ?_
          refine tk_ HT_ HW_ hHeld 10 121 (bl 31 4095) ?_
          refine one_ (i := 12) (N := some 123) (bl 31 8191) rfl rfl (one_of HT_.out (by kernel_rfl)) (by decide) (fun K hK => ?_)
          refine goes_ Try.func76 (by kernel_rfl) rfl #[.agg #[.int .i64 a0_0, .slice A0_1 l0_1.length c0_1, .int .i64 a0_2, .int .i64 a0_3, .slice A0_4 l0_4.length c0_4, .slice (some ad283) l0_5.length c0_5], .int .i64 (rd l0_5 t282), .int .i64 x8_1] (by rfl) rfl rfl am_ ?_
          with_reducible refine (hopmeshref31_Heard.calls a0_0 _ _ l0_1 a0_2 a0_3 _ _ l0_4 _ _ l0_5 (rd l0_5 t282) x8_1 false _ ?side1 ?side2 ?side3 ?side4 ?side5 ?side6 A41.out).mono ?_
          (case side1 | side3 | side5 => exact cb_)
          (case side2 | side4 | side6 => first | exact HC0_1.out | exact HC0_4.out | exact HC0_5.out)
          rintro e w54 ⟨rfl, hb⟩
          refine ⟨_, rfl, ?_⟩
          have n0_ := bk_ BK266 hb
          have n1_ := bk_ BK268 hb
          have n2_ := Aside0.mk (below_step hb_ hb)
          clear BK266
          clear BK268
          clear HB
          have BK266 := n0_
          have BK268 := n1_
          have HB := n2_
          clear n0_ n1_ n2_
          (try clear hb)
          (try clear hb2)
          (try clear hk)
          (try clear hi)
          refine hK.out _ _ ⟨(blk_cell BK266.out 0).trans rfl, (blk_cell BK266.out 1).trans rfl, (blk_cell BK266.out 2).trans rfl, (blk_cell BK266.out 3).trans rfl, (blk_cell BK266.out 4).trans rfl, (blk_cell BK266.out 5).trans rfl, (blk_cell BK268.out 0).trans rfl, (blk_cell BK268.out 1).trans rfl, (blk_cell BK268.out 2).trans rfl, (blk_cell BK268.out 3).trans rfl, (blk_cell BK268.out 4).trans rfl, ((HB.out.cell (World.block_lt_of_cell? w _ hw283_0)).trans hw283_0)⟩ (fun hHeld => ?_)
          clear hK K
          refine norm_ (a' := ?_) ?_ ?_
          rotate_left
          ·
           show Act.put _ (some 123) _ = _
           simp only [ap_, s0_, s1_, i64_w]
           rfl
          refine pu_ HT_ 13 124 (bl 31 16383) ?_
          refine pu_ HT_ 14 125 (bl 31 32767) ?_
          refine of_ HT_ 15 126 (bl 31 65535) ?_
          refine of_ HT_ 16 127 (bl 31 131071) ?_
          refine of_ HT_ 17 128 (bl 31 262143) ?_
          refine of_ HT_ 18 129 (bl 31 524287) ?_
          refine of_ HT_ 19 130 (bl 31 1048575) ?_
          refine of_ HT_ 20 131 (bl 31 2097151) ?_
          refine of_ HT_ 21 132 (bl 31 4194303) ?_
          refine of_ HT_ 22 133 (bl 31 8388607) ?_
          refine of_ HT_ 23 134 (bl 31 16777215) ?_
          refine of_ HT_ 24 135 (bl 31 33554431) ?_
          refine of_ HT_ 25 136 (bl 31 67108863) ?_
          refine of_ HT_ 26 137 (bl 31 134217727) ?_
          refine of_ HT_ 27 138 (bl 31 268435455) ?_
          refine of_ HT_ 28 139 (bl 31 536870911) ?_
          refine pu_ HT_ 29 140 (bl 31 1073741823) ?_
          refine pu_ HT_ 30 6 (bl 31 2147483647) ?_
          refine done_ (done_of HT_.out (by kernel_rfl)) ?_
          try go_wp2
          go_ret
          exact ⟨er_, hb_⟩
        ·
         rw [if_neg c40] at H
         exact absurd H (by simp)
       ·
        rw [if_neg c39] at H
        exact absurd H (by simp)
   ·
    replace c7 := Bool.eq_false_iff.mpr c7
    subst c7
    have H1 : (some true) = some r := by rw [if_neg (show ¬ (false = true) by decide)] at H; exact H
    clear H
    have H := H1
    clear H1
    obtain rfl := Option.some.inj H
    go_enter Try.func48, Try.ntmps48
    go_wp2_with (first | ((with_reducible refine gate_dst (N := 3) rfl ?_); refine bx_ 3 #[.int .i64 a0_0, .slice A0_1 l0_1.length c0_1, .int .i64 a0_2, .int .i64 a0_3, .slice A0_4 l0_4.length c0_4, .slice A0_5 l0_5.length c0_5] 26 ?_; intro gb266 hg w55 hbox hb; have n0_ := Aside0.mk (below_step hb_ hb); have n1_ := Aside0.mk (hbox); have n2_ := Aside0.mk ((by rw [hg]; exact (below_size hb_) : w.heap.size ≤ gb266)); have n3_ := Aside0.mk ((by rw [hg]; exact (below_size hb_) : w.heap.size ≤ gb266)); clear HB; have HB := n0_; have BK266 := n1_; have GW266 := n2_; have GE266 := n3_; clear n0_ n1_ n2_ n3_; clear hb hbox hg; have p267 : 0 ≤ (a2 : Int) := of_decide_eq_true (by assumption); have q267 : a2 < (l1.length : Int) := of_decide_eq_true (by assumption); obtain ⟨ad267, e267, hx267_0, hx267_1, hx267_2, hx267_3, hx267_4⟩ := at_T36 HR1.out a2 p267 q267; cases e267; replace hx267_0 := (HB.out.cell (World.block_lt_of_cell? w _ hx267_0)).trans hx267_0; replace hx267_1 := (HB.out.cell (World.block_lt_of_cell? w _ hx267_1)).trans hx267_1; replace hx267_2 := (HB.out.cell (World.block_lt_of_cell? w _ hx267_2)).trans hx267_2; replace hx267_3 := (HB.out.cell (World.block_lt_of_cell? w _ hx267_3)).trans hx267_3; replace hx267_4 := (HB.out.cell (World.block_lt_of_cell? w _ hx267_4)).trans hx267_4; replace p267 := eq_true p267; replace q267 := eq_true q267) | ((with_reducible refine gate_dst (N := 7) rfl ?_); refine bx_ 7 #[.int .i64 0, .int .i64 0, .int .i64 0, .int .i64 0, .int .i64 0] 36 ?_; intro gb268 hg w56 hbox hb; have n0_ := bk_ BK266 hb; have n1_ := Aside0.mk (below_step hb_ hb); have n2_ := Aside0.mk (hbox); have n3_ := Aside0.mk ((by rw [hg]; exact (below_size hb_) : w.heap.size ≤ gb268)); have n4_ := Aside0.mk ((by rw [hg]; exact (below_size hb_) : w.heap.size ≤ gb268)); have n5_ := Aside0.mk ((by rw [hg]; exact Nat.ne_of_lt (blk_lt (bj_ BK266)) : gb266 ≠ gb268)); have n6_ := Aside0.mk ((by rw [hg]; exact Nat.ne_of_gt (blk_lt (bj_ BK266)) : gb268 ≠ gb266)); clear BK266; clear HB; have BK266 := n0_; have HB := n1_; have BK268 := n2_; have GW268 := n3_; have GE268 := n4_; have NB266_268 := n5_; have NB268_266 := n6_; clear n0_ n1_ n2_ n3_ n4_ n5_ n6_; clear hb hbox hg; have hnb57 := NB268_266.out; have hnc57 := NB266_268.out; have hcz58_0 := bc0 BK268; have hcz58_1 := bc1 BK268; have hcz58_2 := bc2 BK268; have hcz58_3 := bc3 BK268; have hcz58_4 := bc4 BK268; have hfz58_0 := blk_frozen BK268.out 0; have hfz58_1 := blk_frozen BK268.out 1; have hfz58_2 := blk_frozen BK268.out 2; have hfz58_3 := blk_frozen BK268.out 3; have hfz58_4 := blk_frozen BK268.out 4; have hcz59_0 := bc0 BK266; have hcz59_1 := bc1 BK266; have hcz59_2 := bc2 BK266; have hcz59_3 := bc3 BK266; have hcz59_4 := bc4 BK266; have hcz59_5 := bc5 BK266; have hfz59_0 := blk_frozen BK266.out 0; have hfz59_1 := blk_frozen BK266.out 1; have hfz59_2 := blk_frozen BK266.out 2; have hfz59_3 := blk_frozen BK266.out 3; have hfz59_4 := blk_frozen BK266.out 4; have hfz59_5 := blk_frozen BK266.out 5) | ((with_reducible refine gate_callee (f := 74) rfl ?_); refine goesL_ (some 20) rfl rfl Try.func74 (by kernel_rfl) rfl #[.agg #[.int .i64 a0_0, .slice A0_1 l0_1.length c0_1, .int .i64 a0_2, .int .i64 a0_3, .slice A0_4 l0_4.length c0_4, .slice A0_5 l0_5.length c0_5], .int .i64 ((rd_T36 l1 a2).f2), .int .i64 ((rd_T36 l1 a2).f3)] rfl am_ ?_; (with_reducible refine (hopmeshref31_Good.calls k a0_0 _ _ l0_1 a0_2 a0_3 _ _ l0_4 _ _ l0_5 ((rd_T36 l1 a2).f2) ((rd_T36 l1 a2).f3) false _ ?side1 ?side2 ?side3 ?side4 ?side5 ?side6 A6.out).mono ?_); (case side1 => exact Kd.C_below HR0_1.out hb_); (case side2 => exact HC0_1.out); (case side3 => exact Kd.C_below HR0_4.out hb_); (case side4 => exact HC0_4.out); (case side5 => exact Kd.C_below HR0_5.out hb_); (case side6 => exact HC0_5.out); rintro e w60 ⟨rfl, hb⟩; refine ⟨_, rfl, ?_⟩; have n0_ := Aside0.mk (blk_below (g := gb266) (o := .cells #[.int .i64 a0_0, .slice A0_1 l0_1.length c0_1, .int .i64 a0_2, .int .i64 a0_3, .slice A0_4 l0_4.length c0_4, .slice A0_5 l0_5.length c0_5] 26 (0, 0)) (by (with_reducible repeat (first | refine blk_drewN ?_ _ | refine blk_drew ?_ | refine blk_alloc ?_ _)); refine blk_far ?_ NB266_268.out _; (with_reducible repeat (first | refine blk_drewN ?_ _ | refine blk_drew ?_ | refine blk_alloc ?_ _)); refine blk_far ?_ NB266_268.out _; (with_reducible repeat (first | refine blk_drewN ?_ _ | refine blk_drew ?_ | refine blk_alloc ?_ _)); refine blk_far ?_ NB266_268.out _; (with_reducible repeat (first | refine blk_drewN ?_ _ | refine blk_drew ?_ | refine blk_alloc ?_ _)); refine blk_far ?_ NB266_268.out _; (with_reducible repeat (first | refine blk_drewN ?_ _ | refine blk_drew ?_ | refine blk_alloc ?_ _)); refine blk_far ?_ NB266_268.out _; (with_reducible repeat (first | refine blk_drewN ?_ _ | refine blk_drew ?_ | refine blk_alloc ?_ _)); exact BK266.out) hb); have n1_ := Aside0.mk (blk_below (g := gb268) (o := .cells #[.int .i64 ((rd_T36 l1 a2).f0), .int .i64 ((rd_T36 l1 a2).f1), .int .i64 ((rd_T36 l1 a2).f2), .int .i64 ((rd_T36 l1 a2).f3), .int .i64 ((rd_T36 l1 a2).f4)] 36 (0, 0)) (by (with_reducible repeat (first | refine blk_drewN ?_ _ | refine blk_drew ?_ | refine blk_alloc ?_ _)); refine blk_put (cs := #[.int .i64 ((rd_T36 l1 a2).f0), .int .i64 ((rd_T36 l1 a2).f1), .int .i64 ((rd_T36 l1 a2).f2), .int .i64 ((rd_T36 l1 a2).f3), .int .i64 0]) ?_ 4 _ rfl; (with_reducible repeat (first | refine blk_drewN ?_ _ | refine blk_drew ?_ | refine blk_alloc ?_ _)); refine blk_put (cs := #[.int .i64 ((rd_T36 l1 a2).f0), .int .i64 ((rd_T36 l1 a2).f1), .int .i64 ((rd_T36 l1 a2).f2), .int .i64 0, .int .i64 0]) ?_ 3 _ rfl; (with_reducible repeat (first | refine blk_drewN ?_ _ | refine blk_drew ?_ | refine blk_alloc ?_ _)); refine blk_put (cs := #[.int .i64 ((rd_T36 l1 a2).f0), .int .i64 ((rd_T36 l1 a2).f1), .int .i64 0, .int .i64 0, .int .i64 0]) ?_ 2 _ rfl; (with_reducible repeat (first | refine blk_drewN ?_ _ | refine blk_drew ?_ | refine blk_alloc ?_ _)); refine blk_put (cs := #[.int .i64 ((rd_T36 l1 a2).f0), .int .i64 0, .int .i64 0, .int .i64 0, .int .i64 0]) ?_ 1 _ rfl; (with_reducible repeat (first | refine blk_drewN ?_ _ | refine blk_drew ?_ | refine blk_alloc ?_ _)); refine blk_put (cs := #[.int .i64 0, .int .i64 0, .int .i64 0, .int .i64 0, .int .i64 0]) ?_ 0 _ rfl; (with_reducible repeat (first | refine blk_drewN ?_ _ | refine blk_drew ?_ | refine blk_alloc ?_ _)); exact BK268.out) hb); have n2_ := Aside0.mk (below_step hb_ hb); clear BK266; clear BK268; clear HB; have BK266 := n0_; have BK268 := n1_; have HB := n2_; clear n0_ n1_ n2_; (try clear hb); (try clear hb2); (try clear hk); (try clear hi)))
    go_ret
    exact ⟨er_, hb_⟩
  ·
   rw [if_neg c5] at H
   exact absurd H (by simp)
 ·
  rw [if_neg c4] at H
  exact absurd H (by simp)

end Go.Proofs.Ytibgcekekmphoaa.P34
