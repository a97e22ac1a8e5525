-- Written by a program of this session (wip/tools) over the kit's print; Lean checks it.
import Derived.Test.YtibgcekekmphoaaP340
namespace Go.Proofs.Ytibgcekekmphoaa.P34
open Go.RowKit Go.Proofs.YtibgcekekmphoaaW.PrintWords Go.Proofs.YtibgcekekmphoaaW.PrintLast Go.Proofs.YtibgcekekmphoaaW.PrintMore
attribute [local go_sem] max2_int min2_int max_two min_two max_three min_three max_four min_four   -- for this text's walks alone
set_option linter.unusedVariables false
set_option linter.unusedSimpArgs false

/-! ### conflict_isNode: function 37 -/
def conflict_isNode.f (a0_0 : Int) (l0_1 : List (List Int)) (a0_2 : Int) (a0_3 : Int) (l0_4 : List (S44)) (l0_5 : List Int) (a1 : Int) : Option (Bool) := if a1 ≥ 0 then (some (decide (a1 < a0_0))) else (some false)
set_option maxHeartbeats 8000000 in
set_option maxRecDepth 100000 in
theorem conflict_isNode.calls (a0_0 : Int) (A0_1 : Option Addr) (c0_1 : Nat) (l0_1 : List (List Int)) (a0_2 : Int) (a0_3 : Int) (A0_4 : Option Addr) (c0_4 : Nat) (l0_4 : List (S44)) (A0_5 : Option Addr) (c0_5 : Nat) (l0_5 : List Int) (a1 : Int) (r : Bool) (w : World) (hr0_1 : Kd.C (Kd.slice 3 (Kd.int .i64)) w A0_1 l0_1.length l0_1) (hc0_1 : l0_1.length ≤ c0_1) (hr0_4 : Kd.C k44 w A0_4 l0_4.length l0_4) (hc0_4 : l0_4.length ≤ c0_4) (hr0_5 : Kd.C (Kd.int .i64) w A0_5 l0_5.length l0_5) (hc0_5 : l0_5.length ≤ c0_5) (h : conflict_isNode.f a0_0 l0_1 a0_2 a0_3 l0_4 l0_5 a1 = some r) :
  Calls Try.prog 37 #[.agg #[.int .i64 a0_0, .slice A0_1 l0_1.length c0_1, .int .i64 a0_2, .int .i64 a0_3, .slice A0_4 l0_4.length c0_4, .slice A0_5 l0_5.length c0_5], .int .i64 a1] w fun e w' => e = .returned (.bool r) ∧ Below w.heap.size w w' := by
 have hu26 := Try.underlying26
 have HR0_1 := Aside0.mk hr0_1
 have HC0_1 := Aside0.mk hc0_1
 clear hr0_1 hc0_1
 have HR0_4 := Aside0.mk hr0_4
 have HC0_4 := Aside0.mk hc0_4
 clear hr0_4 hc0_4
 have HR0_5 := Aside0.mk hr0_5
 have HC0_5 := Aside0.mk hc0_5
 clear hr0_5 hc0_5
 have HB := Aside0.mk (Below.refl w.heap.size w)
 have H : (if a1 ≥ 0 then (some (decide (a1 < a0_0))) else (some false)) = some r := h
 clear h
 by_cases c3 : a1 ≥ 0
 ·
  rw [if_pos c3] at H
  have c3b0 : decide (0 ≤ a1) = true := decide_eq_true c3
  clear c3
  obtain rfl := Option.some.inj H
  go_enter Try.func37, Try.ntmps37
  go_wp2_with (first | ((with_reducible refine gate_dst (N := 2) rfl ?_); refine bx_ 2 #[.int .i64 a0_0, .slice A0_1 l0_1.length c0_1, .int .i64 a0_2, .int .i64 a0_3, .slice A0_4 l0_4.length c0_4, .slice A0_5 l0_5.length c0_5] 26 ?_; intro gb513 hg w4 hbox hb; have n0_ := Aside0.mk (below_step hb_ hb); have n1_ := Aside0.mk (hbox); have n2_ := Aside0.mk ((by rw [hg]; exact (below_size hb_) : w.heap.size ≤ gb513)); have n3_ := Aside0.mk ((by rw [hg]; exact (below_size hb_) : w.heap.size ≤ gb513)); clear HB; have HB := n0_; have BK513 := n1_; have GW513 := n2_; have GE513 := n3_; clear n0_ n1_ n2_ n3_; clear hb hbox hg; have hcz5_0 := bc0 BK513; have hcz5_1 := bc1 BK513; have hcz5_2 := bc2 BK513; have hcz5_3 := bc3 BK513; have hcz5_4 := bc4 BK513; have hcz5_5 := bc5 BK513; have hfz5_0 := blk_frozen BK513.out 0; have hfz5_1 := blk_frozen BK513.out 1; have hfz5_2 := blk_frozen BK513.out 2; have hfz5_3 := blk_frozen BK513.out 3; have hfz5_4 := blk_frozen BK513.out 4; have hfz5_5 := blk_frozen BK513.out 5))
  go_ret
  exact ⟨er_, hb_⟩
 ·
  rw [if_neg c3] at H
  have c3b0 : decide (0 ≤ a1) = false := decide_eq_false c3
  clear c3
  obtain rfl := Option.some.inj H
  go_enter Try.func37, Try.ntmps37
  go_wp2_with (first | ((with_reducible refine gate_dst (N := 2) rfl ?_); refine bx_ 2 #[.int .i64 a0_0, .slice A0_1 l0_1.length c0_1, .int .i64 a0_2, .int .i64 a0_3, .slice A0_4 l0_4.length c0_4, .slice A0_5 l0_5.length c0_5] 26 ?_; intro gb513 hg w6 hbox hb; have n0_ := Aside0.mk (below_step hb_ hb); have n1_ := Aside0.mk (hbox); have n2_ := Aside0.mk ((by rw [hg]; exact (below_size hb_) : w.heap.size ≤ gb513)); have n3_ := Aside0.mk ((by rw [hg]; exact (below_size hb_) : w.heap.size ≤ gb513)); clear HB; have HB := n0_; have BK513 := n1_; have GW513 := n2_; have GE513 := n3_; clear n0_ n1_ n2_ n3_; clear hb hbox hg))
  go_ret
  exact ⟨er_, hb_⟩

/-! ### conflict_disturbance: function 39 -/
mutual
def conflict_disturbance.l0 : Nat → Int → Int → Int → List (S36) → Int → Int → Int → List (List Int) → Int → Int → List (S44) → List Int → Option (Int)
 | 0, _, _, _, _, _, _, _, _, _, _, _, _ => none
 | k + 1, x2, x3, x9, x14, x15, x16, x515000, x515001, x515002, x515003, x515004, x515005 => if x16 < x15 then (if 0 ≤ x16 then (if x16 < (x14.length : Int) then (if x16 = x2 then (conflict_disturbance.l0 k x2 x3 x9 x14 x15 (wrap64 (x16 + 1)) x515000 x515001 x515002 x515003 x515004 x515005) else ((some (([(rd_T36 x14 x16).f2, (rd_T36 x14 x16).f3] : List Int) : List Int)).bind fun y517 => (conflict_disturbance.l1 k x2 x3 x9 x14 x15 x16 y517 (y517.length : Int) 0 x515000 x515001 x515002 x515003 x515004 x515005))) else (none)) else (none)) else (some x9)
def conflict_disturbance.l1 : Nat → Int → Int → Int → List (S36) → Int → Int → List Int → Int → Int → Int → List (List Int) → Int → Int → List (S44) → List Int → Option (Int)
 | 0, _, _, _, _, _, _, _, _, _, _, _, _, _, _, _ => none
 | k + 1, x2, x3, x9, x14, x15, x16, x28, x29, x30, x515000, x515001, x515002, x515003, x515004, x515005 => if x30 < x29 then (if 0 ≤ x30 then (if x30 < (x28.length : Int) then ((conflict_isNode.f x515000 x515001 x515002 x515003 x515004 x515005 (rd x28 x30)).bind fun t521 => (if t521 = true then (if 0 ≤ (rd x28 x30) then (if (rd x28 x30) < (x515001.length : Int) then (if 0 ≤ x3 then (if x3 < ((rd_L1 x515001 (rd x28 x30)).length : Int) then (conflict_disturbance.l1 k x2 x3 (wrap64 (x9 + (rd (rd_L1 x515001 (rd x28 x30)) x3))) x14 x15 x16 x28 x29 (wrap64 (x30 + 1)) x515000 x515001 x515002 x515003 x515004 x515005) else (none)) else (none)) else (none)) else (none)) else (conflict_disturbance.l1 k x2 x3 x9 x14 x15 x16 x28 x29 (wrap64 (x30 + 1)) x515000 x515001 x515002 x515003 x515004 x515005))) else (none)) else (none)) else (conflict_disturbance.l0 k x2 x3 x9 x14 x15 (wrap64 (x16 + 1)) x515000 x515001 x515002 x515003 x515004 x515005)
end
def conflict_disturbance.f (k : Nat) (a0_0 : Int) (l0_1 : List (List Int)) (a0_2 : Int) (a0_3 : Int) (l0_4 : List (S44)) (l0_5 : List Int) (l1 : List (S36)) (a2 : Int) (a3 : Int) : Option (Int) := conflict_disturbance.l0 k a2 a3 0 l1 (l1.length : Int) 0 a0_0 l0_1 a0_2 a0_3 l0_4 l0_5
theorem conflict_disturbance.mono_l : ∀ k, (∀ y0 y1 y2 y3 y4 y5 y6 y7 y8 y9 y10 y11, LeO (conflict_disturbance.l0 k y0 y1 y2 y3 y4 y5 y6 y7 y8 y9 y10 y11) (conflict_disturbance.l0 (k + 1) y0 y1 y2 y3 y4 y5 y6 y7 y8 y9 y10 y11)) ∧ (∀ y0 y1 y2 y3 y4 y5 y6 y7 y8 y9 y10 y11 y12 y13 y14, LeO (conflict_disturbance.l1 k y0 y1 y2 y3 y4 y5 y6 y7 y8 y9 y10 y11 y12 y13 y14) (conflict_disturbance.l1 (k + 1) y0 y1 y2 y3 y4 y5 y6 y7 y8 y9 y10 y11 y12 y13 y14))
 | 0 => ⟨fun _ _ _ _ _ _ _ _ _ _ _ _ r h => by simp [conflict_disturbance.l0] at h, fun _ _ _ _ _ _ _ _ _ _ _ _ _ _ _ r h => by simp [conflict_disturbance.l1] at h⟩
 | k + 1 => by
  obtain ⟨ih0, ih1⟩ := conflict_disturbance.mono_l k
  refine ⟨?_, ?_⟩
  ·
   intro y0 y1 y2 y3 y4 y5 y6 y7 y8 y9 y10 y11
   unfold conflict_disturbance.l0
   repeat' first
   | (with_reducible exact ih0 _ _ _ _ _ _ _ _ _ _ _ _)
   | (with_reducible exact ih1 _ _ _ _ _ _ _ _ _ _ _ _ _ _ _)
   | (with_reducible exact LeO.refl _)
   | (with_reducible exact LeO.none _)
   | (with_reducible refine LeO.ite ?_ ?_)
   | (with_reducible refine LeO.bind ?_ (fun _ => ?_))
   | exact ih0 _ _ _ _ _ _ _ _ _ _ _ _
   | exact ih1 _ _ _ _ _ _ _ _ _ _ _ _ _ _ _
   | exact LeO.none _
   | refine LeO.ite ?_ ?_
   | refine LeO.bind ?_ (fun _ => ?_)
  ·
   intro y0 y1 y2 y3 y4 y5 y6 y7 y8 y9 y10 y11 y12 y13 y14
   unfold conflict_disturbance.l1
   repeat' first
   | (with_reducible exact ih0 _ _ _ _ _ _ _ _ _ _ _ _)
   | (with_reducible exact ih1 _ _ _ _ _ _ _ _ _ _ _ _ _ _ _)
   | (with_reducible exact LeO.refl _)
   | (with_reducible exact LeO.none _)
   | (with_reducible refine LeO.ite ?_ ?_)
   | (with_reducible refine LeO.bind ?_ (fun _ => ?_))
   | exact ih0 _ _ _ _ _ _ _ _ _ _ _ _
   | exact ih1 _ _ _ _ _ _ _ _ _ _ _ _ _ _ _
   | exact LeO.none _
   | refine LeO.ite ?_ ?_
   | refine LeO.bind ?_ (fun _ => ?_)
theorem conflict_disturbance.mono : ∀ a0 a1 a2 a3 a4 a5 a6 a7 a8 k, LeO (conflict_disturbance.f k a0 a1 a2 a3 a4 a5 a6 a7 a8) (conflict_disturbance.f (k + 1) a0 a1 a2 a3 a4 a5 a6 a7 a8) := by
 intro a0 a1 a2 a3 a4 a5 a6 a7 a8 k
 obtain ⟨ih0, ih1⟩ := conflict_disturbance.mono_l k
 unfold conflict_disturbance.f
 repeat' first
   | (with_reducible exact ih0 _ _ _ _ _ _ _ _ _ _ _ _)
   | (with_reducible exact ih1 _ _ _ _ _ _ _ _ _ _ _ _ _ _ _)
   | (with_reducible exact LeO.refl _)
   | (with_reducible exact LeO.none _)
   | (with_reducible refine LeO.ite ?_ ?_)
   | (with_reducible refine LeO.bind ?_ (fun _ => ?_))
   | exact ih0 _ _ _ _ _ _ _ _ _ _ _ _
   | exact ih1 _ _ _ _ _ _ _ _ _ _ _ _ _ _ _
   | exact LeO.none _
   | refine LeO.ite ?_ ?_
   | refine LeO.bind ?_ (fun _ => ?_)
set_option maxHeartbeats 8000000 in
set_option maxRecDepth 100000 in
theorem conflict_disturbance.calls (k : Nat) (a0_0 : Int) (A0_1 : Option Addr) (c0_1 : Nat) (l0_1 : List (List Int)) (a0_2 : Int) (a0_3 : Int) (A0_4 : Option Addr) (c0_4 : Nat) (l0_4 : List (S44)) (A0_5 : Option Addr) (c0_5 : Nat) (l0_5 : List Int) (A1 : Option Addr) (c1 : Nat) (l1 : List (S36)) (a2 : Int) (a3 : Int) (r : Int) (w : World) (hr0_1 : Kd.C (Kd.slice 3 (Kd.int .i64)) w A0_1 l0_1.length l0_1) (hc0_1 : l0_1.length ≤ c0_1) (hr0_4 : Kd.C k44 w A0_4 l0_4.length l0_4) (hc0_4 : l0_4.length ≤ c0_4) (hr0_5 : Kd.C (Kd.int .i64) w A0_5 l0_5.length l0_5) (hc0_5 : l0_5.length ≤ c0_5) (hr1 : Kd.C k36 w A1 l1.length l1) (hc1 : l1.length ≤ c1) (h : conflict_disturbance.f k a0_0 l0_1 a0_2 a0_3 l0_4 l0_5 l1 a2 a3 = some r) :
  Calls Try.prog 39 #[.agg #[.int .i64 a0_0, .slice A0_1 l0_1.length c0_1, .int .i64 a0_2, .int .i64 a0_3, .slice A0_4 l0_4.length c0_4, .slice A0_5 l0_5.length c0_5], .slice A1 l1.length c1, .int .i64 a2, .int .i64 a3] w fun e w' => e = .returned (.int .i64 r) ∧ Below w.heap.size w w' := by
 have hu26 := Try.underlying26
 have hu36 := Try.underlying36
 have HR0_1 := Aside0.mk hr0_1
 have HC0_1 := Aside0.mk hc0_1
 clear hr0_1 hc0_1
 have HR0_4 := Aside0.mk hr0_4
 have HC0_4 := Aside0.mk hc0_4
 clear hr0_4 hc0_4
 have HR0_5 := Aside0.mk hr0_5
 have HC0_5 := Aside0.mk hc0_5
 clear hr0_5 hc0_5
 have HR1 := Aside0.mk hr1
 have HC1 := Aside0.mk hc1
 clear hr1 hc1
 have HB := Aside0.mk (Below.refl w.heap.size w)
 have H : (conflict_disturbance.l0 k a2 a3 0 l1 (l1.length : Int) 0 a0_0 l0_1 a0_2 a0_3 l0_4 l0_5) = some r := h
 clear h
 have H' := Aside0.mk H
 clear H
 go_enter Try.func39, Try.ntmps39
 go_wp2_with (first | ((with_reducible refine gate_dst (N := 4) rfl ?_); refine bx_ 4 #[.int .i64 a0_0, .slice A0_1 l0_1.length c0_1, .int .i64 a0_2, .int .i64 a0_3, .slice A0_4 l0_4.length c0_4, .slice A0_5 l0_5.length c0_5] 26 ?_; intro gb514 hg w5 hbox hb; have n0_ := Aside0.mk (below_step hb_ hb); have n1_ := Aside0.mk (hbox); have n2_ := Aside0.mk ((by rw [hg]; exact (below_size hb_) : w.heap.size ≤ gb514)); have n3_ := Aside0.mk ((by rw [hg]; exact (below_size hb_) : w.heap.size ≤ gb514)); clear HB; have HB := n0_; have BK514 := n1_; have GW514 := n2_; have GE514 := n3_; clear n0_ n1_ n2_ n3_; clear hb hbox hg))
 go_loopg [9, 16] k (fun kq v9 v16 w' => ∃ (x9_1 : Int) (x16_1 : Int), v9 = .int .i64 x9_1 ∧ v16 = .int .i64 x16_1 ∧ Aside0 (conflict_disturbance.l0 kq a2 a3 x9_1 l1 (l1.length : Int) x16_1 a0_0 l0_1 a0_2 a0_3 l0_4 l0_5 = some r) ∧ Aside0 (kq ≤ k) ∧ Aside0 (w'.heap[gb514]? = some (.cells #[.int .i64 a0_0, (.slice A0_1 l0_1.length c0_1), .int .i64 a0_2, .int .i64 a0_3, (.slice A0_4 l0_4.length c0_4), (.slice A0_5 l0_5.length c0_5)] 26 (0, 0))) ∧ Aside0 (Below w.heap.size w w'))
 case atStart => exact ⟨(0), (0), rl_, rl_, H', ⟨Nat.le_refl _⟩, ⟨bj_ BK514⟩, ⟨hb_⟩⟩
 case round =>
  clear H'
  try clear c1; try clear p2; try clear c3
  (repeat clear BK514); (repeat clear HB)
  obtain ⟨x9_1, x16_1, rfl, rfl, HA, HK1, BK514, HB⟩ := hrel
  cases gk with
  | zero => exact absurd HA.out (by simp [conflict_disturbance.l0])
  | succ k1 =>
   have H := HA.out
   clear HA
   simp only [conflict_disturbance.l0] at H
   by_cases c6 : x16_1 < (l1.length : Int)
   ·
    rw [if_pos c6] at H
    have c6b0 : decide (x16_1 < (l1.length : Int)) = true := decide_eq_true c6
    clear c6
    by_cases c7 : 0 ≤ x16_1
    ·
     rw [if_pos c7] at H
     have c7b0 : decide (0 ≤ x16_1) = true := decide_eq_true c7
     clear c7
     by_cases c8 : x16_1 < (l1.length : Int)
     ·
      rw [if_pos c8] at H
      have c8b0 : decide (x16_1 < (l1.length : Int)) = true := decide_eq_true c8
      clear c8
      by_cases c9 : x16_1 = a2
      ·
       rw [if_pos c9] at H
       have c9b0 : (x16_1 == a2) = true := beq_iff_eq.mpr c9
       have c9b1 : (x16_1 != a2) = false := bne_eq_false_iff_eq.mpr c9
       clear c9
       have H' := Aside0.mk H
       clear H
       have p515 : 0 ≤ (x16_1 : Int) := of_decide_eq_true (by assumption)
       have q515 : x16_1 < (l1.length : Int) := of_decide_eq_true (by assumption)
       obtain ⟨ad515, e515, hx515_0, hx515_1, hx515_2, hx515_3, hx515_4⟩ := at_T36 HR1.out x16_1 p515 q515
       cases e515
       replace hx515_0 := (HB.out.cell (World.block_lt_of_cell? w _ hx515_0)).trans hx515_0
       replace hx515_1 := (HB.out.cell (World.block_lt_of_cell? w _ hx515_1)).trans hx515_1
       replace hx515_2 := (HB.out.cell (World.block_lt_of_cell? w _ hx515_2)).trans hx515_2
       replace hx515_3 := (HB.out.cell (World.block_lt_of_cell? w _ hx515_3)).trans hx515_3
       replace hx515_4 := (HB.out.cell (World.block_lt_of_cell? w _ hx515_4)).trans hx515_4
       replace p515 := eq_true p515
       replace q515 := eq_true q515
       go_wp2_with (first | ((with_reducible refine gate_dst (N := 11) rfl ?_); refine bx_ 11 #[.int .i64 0, .int .i64 0, .int .i64 0, .int .i64 0, .int .i64 0] 36 ?_; intro gb516 hg w10 hbox hb; have n0_ := bk_ BK514 hb; have n1_ := Aside0.mk (below_step hb_ hb); have n2_ := Aside0.mk (hbox); have n3_ := Aside0.mk ((by rw [hg]; exact (below_size hb_) : w.heap.size ≤ gb516)); have n4_ := Aside0.mk ((by rw [hg]; exact (below_size hb_) : w.heap.size ≤ gb516)); have n5_ := Aside0.mk ((by rw [hg]; exact Nat.ne_of_lt (blk_lt (bj_ BK514)) : gb514 ≠ gb516)); have n6_ := Aside0.mk ((by rw [hg]; exact Nat.ne_of_gt (blk_lt (bj_ BK514)) : gb516 ≠ gb514)); clear BK514; clear HB; have BK514 := n0_; have HB := n1_; have BK516 := n2_; have GW516 := n3_; have GE516 := n4_; have NB514_516 := n5_; have NB516_514 := n6_; clear n0_ n1_ n2_ n3_ n4_ n5_ n6_; clear hb hbox hg; have hnb11 := NB516_514.out; have hnc11 := NB514_516.out; have hcz12_0 := bc0 BK516; have hcz12_1 := bc1 BK516; have hcz12_2 := bc2 BK516; have hcz12_3 := bc3 BK516; have hcz12_4 := bc4 BK516; have hfz12_0 := blk_frozen BK516.out 0; have hfz12_1 := blk_frozen BK516.out 1; have hfz12_2 := blk_frozen BK516.out 2; have hfz12_3 := blk_frozen BK516.out 3; have hfz12_4 := blk_frozen BK516.out 4))
       go_roundg k1
       case measure => have := HK1.out; omega
       case rel => exact ⟨(x9_1), (wrap64 (x16_1 + 1)), rl_, rl_, H', ⟨by have := HK1.out; omega⟩, ⟨by (with_reducible repeat (first | refine blk_drewN ?_ _ | refine blk_drew ?_ | refine blk_alloc ?_ _)); refine blk_far ?_ NB514_516.out _; (with_reducible repeat (first | refine blk_drewN ?_ _ | refine blk_drew ?_ | refine blk_alloc ?_ _)); refine blk_far ?_ NB514_516.out _; (with_reducible repeat (first | refine blk_drewN ?_ _ | refine blk_drew ?_ | refine blk_alloc ?_ _)); refine blk_far ?_ NB514_516.out _; (with_reducible repeat (first | refine blk_drewN ?_ _ | refine blk_drew ?_ | refine blk_alloc ?_ _)); refine blk_far ?_ NB514_516.out _; (with_reducible repeat (first | refine blk_drewN ?_ _ | refine blk_drew ?_ | refine blk_alloc ?_ _)); refine blk_far ?_ NB514_516.out _; (with_reducible repeat (first | refine blk_drewN ?_ _ | refine blk_drew ?_ | refine blk_alloc ?_ _)); exact BK514.out⟩, ⟨hb_⟩⟩
      ·
       rw [if_neg c9] at H
       have c9b0 : (x16_1 == a2) = false := beq_eq_false_iff_ne.mpr c9
       have c9b1 : (x16_1 != a2) = true := bne_iff_ne.mpr c9
       obtain ⟨y517, hy517⟩ : ∃ y_ : List Int, y_ = (([(rd_T36 l1 x16_1).f2, (rd_T36 l1 x16_1).f3] : List Int)) := ⟨_, rfl⟩
       replace H : (conflict_disturbance.l1 k1 a2 a3 x9_1 l1 (l1.length : Int) x16_1 y517 (y517.length : Int) 0 a0_0 l0_1 a0_2 a0_3 l0_4 l0_5) = some r := by first | (rw [hy517]; with_reducible exact H) | (have H2_ := (Option.bind_some _ _).symm.trans H; rw [hy517]; with_reducible exact H2_) | (have H2_ := (Option.bind_some _ _).symm.trans H; with_reducible exact H2_) | with_reducible exact H | (rw [hy517]; exact H) | exact H
       have Ny517 := Aside0.mk hy517
       clear hy517
       have H' := Aside0.mk H
       clear H
       have p515 : 0 ≤ (x16_1 : Int) := of_decide_eq_true (by assumption)
       have q515 : x16_1 < (l1.length : Int) := of_decide_eq_true (by assumption)
       obtain ⟨ad515, e515, hx515_0, hx515_1, hx515_2, hx515_3, hx515_4⟩ := at_T36 HR1.out x16_1 p515 q515
       cases e515
       replace hx515_0 := (HB.out.cell (World.block_lt_of_cell? w _ hx515_0)).trans hx515_0
       replace hx515_1 := (HB.out.cell (World.block_lt_of_cell? w _ hx515_1)).trans hx515_1
       replace hx515_2 := (HB.out.cell (World.block_lt_of_cell? w _ hx515_2)).trans hx515_2
       replace hx515_3 := (HB.out.cell (World.block_lt_of_cell? w _ hx515_3)).trans hx515_3
       replace hx515_4 := (HB.out.cell (World.block_lt_of_cell? w _ hx515_4)).trans hx515_4
       replace p515 := eq_true p515
       replace q515 := eq_true q515
       go_wp2_with (first | ((with_reducible refine gate_dst (N := 11) rfl ?_); refine bx_ 11 #[.int .i64 0, .int .i64 0, .int .i64 0, .int .i64 0, .int .i64 0] 36 ?_; intro gb516 hg w13 hbox hb; have n0_ := bk_ BK514 hb; have n1_ := Aside0.mk (below_step hb_ hb); have n2_ := Aside0.mk (hbox); have n3_ := Aside0.mk ((by rw [hg]; exact (below_size hb_) : w.heap.size ≤ gb516)); have n4_ := Aside0.mk ((by rw [hg]; exact (below_size hb_) : w.heap.size ≤ gb516)); have n5_ := Aside0.mk ((by rw [hg]; exact Nat.ne_of_lt (blk_lt (bj_ BK514)) : gb514 ≠ gb516)); have n6_ := Aside0.mk ((by rw [hg]; exact Nat.ne_of_gt (blk_lt (bj_ BK514)) : gb516 ≠ gb514)); clear BK514; clear HB; have BK514 := n0_; have HB := n1_; have BK516 := n2_; have GW516 := n3_; have GE516 := n4_; have NB514_516 := n5_; have NB516_514 := n6_; clear n0_ n1_ n2_ n3_ n4_ n5_ n6_; clear hb hbox hg; have hnb14 := NB516_514.out; have hnc14 := NB514_516.out; have hcz15_0 := bc0 BK516; have hcz15_1 := bc1 BK516; have hcz15_2 := bc2 BK516; have hcz15_3 := bc3 BK516; have hcz15_4 := bc4 BK516; have hfz15_0 := blk_frozen BK516.out 0; have hfz15_1 := blk_frozen BK516.out 1; have hfz15_2 := blk_frozen BK516.out 2; have hfz15_3 := blk_frozen BK516.out 3; have hfz15_4 := blk_frozen BK516.out 4) | ((with_reducible refine gate_dst (N := 28) rfl ?_); refine Kd.R_lit (Kd.int .i64) _ 3 ?hg (N := 28) ?hd (xs := ([(rd_T36 l1 x16_1).f2, (rd_T36 l1 x16_1).f3] : List Int)) (inner := [.int .i64 ((rd_T36 l1 x16_1).f2), .int .i64 ((rd_T36 l1 x16_1).f3)]) (ok := fun _ => True) (okp := fun _ => True) ?hr ?hp (fun _ hk => hk) trivial (Below.refl _ _) (Nat.le_refl _) (by simp) ?_; (case hd => rfl); (case hg => rfl); (case hr => first | (go_simp; done) | (go_simp; rfl)); (case hp => exact (Reps.one (show Kd.M (Kd.int .i64) _ _ _ ((rd_T36 l1 x16_1).f2) [.int .i64 ((rd_T36 l1 x16_1).f2)] from rfl) (Reps.one (show Kd.M (Kd.int .i64) _ _ _ ((rd_T36 l1 x16_1).f3) [.int .i64 ((rd_T36 l1 x16_1).f3)] from rfl) (Reps.none _ _)))); intro v518 w16 ho17 hb hg_ hnew_; clear hg_ hnew_; (first | rw [← Ny517.out] at ho17 | (simp only [Int.reduceToNat] at ho17; rw [← Ny517.out] at ho17)); have n0_ := Aside0.mk (Kd.R_lower ho17 (below_size hb_)); have n1_ := Aside0.mk (blk_below (g := gb514) (o := .cells #[.int .i64 a0_0, .slice A0_1 l0_1.length c0_1, .int .i64 a0_2, .int .i64 a0_3, .slice A0_4 l0_4.length c0_4, .slice A0_5 l0_5.length c0_5] 26 (0, 0)) (by (with_reducible repeat (first | refine blk_drewN ?_ _ | refine blk_drew ?_ | refine blk_alloc ?_ _)); refine blk_far ?_ NB514_516.out _; (with_reducible repeat (first | refine blk_drewN ?_ _ | refine blk_drew ?_ | refine blk_alloc ?_ _)); refine blk_far ?_ NB514_516.out _; (with_reducible repeat (first | refine blk_drewN ?_ _ | refine blk_drew ?_ | refine blk_alloc ?_ _)); refine blk_far ?_ NB514_516.out _; (with_reducible repeat (first | refine blk_drewN ?_ _ | refine blk_drew ?_ | refine blk_alloc ?_ _)); refine blk_far ?_ NB514_516.out _; (with_reducible repeat (first | refine blk_drewN ?_ _ | refine blk_drew ?_ | refine blk_alloc ?_ _)); refine blk_far ?_ NB514_516.out _; (with_reducible repeat (first | refine blk_drewN ?_ _ | refine blk_drew ?_ | refine blk_alloc ?_ _)); exact BK514.out) hb); have n2_ := Aside0.mk (blk_below (g := gb516) (o := .cells #[.int .i64 ((rd_T36 l1 x16_1).f0), .int .i64 ((rd_T36 l1 x16_1).f1), .int .i64 ((rd_T36 l1 x16_1).f2), .int .i64 ((rd_T36 l1 x16_1).f3), .int .i64 ((rd_T36 l1 x16_1).f4)] 36 (0, 0)) (by (with_reducible repeat (first | refine blk_drewN ?_ _ | refine blk_drew ?_ | refine blk_alloc ?_ _)); refine blk_put (cs := #[.int .i64 ((rd_T36 l1 x16_1).f0), .int .i64 ((rd_T36 l1 x16_1).f1), .int .i64 ((rd_T36 l1 x16_1).f2), .int .i64 ((rd_T36 l1 x16_1).f3), .int .i64 0]) ?_ 4 _ rfl; (with_reducible repeat (first | refine blk_drewN ?_ _ | refine blk_drew ?_ | refine blk_alloc ?_ _)); refine blk_put (cs := #[.int .i64 ((rd_T36 l1 x16_1).f0), .int .i64 ((rd_T36 l1 x16_1).f1), .int .i64 ((rd_T36 l1 x16_1).f2), .int .i64 0, .int .i64 0]) ?_ 3 _ rfl; (with_reducible repeat (first | refine blk_drewN ?_ _ | refine blk_drew ?_ | refine blk_alloc ?_ _)); refine blk_put (cs := #[.int .i64 ((rd_T36 l1 x16_1).f0), .int .i64 ((rd_T36 l1 x16_1).f1), .int .i64 0, .int .i64 0, .int .i64 0]) ?_ 2 _ rfl; (with_reducible repeat (first | refine blk_drewN ?_ _ | refine blk_drew ?_ | refine blk_alloc ?_ _)); refine blk_put (cs := #[.int .i64 ((rd_T36 l1 x16_1).f0), .int .i64 0, .int .i64 0, .int .i64 0, .int .i64 0]) ?_ 1 _ rfl; (with_reducible repeat (first | refine blk_drewN ?_ _ | refine blk_drew ?_ | refine blk_alloc ?_ _)); refine blk_put (cs := #[.int .i64 0, .int .i64 0, .int .i64 0, .int .i64 0, .int .i64 0]) ?_ 0 _ rfl; (with_reducible repeat (first | refine blk_drewN ?_ _ | refine blk_drew ?_ | refine blk_alloc ?_ _)); exact BK516.out) hb); have n3_ := Aside0.mk (below_step hb_ hb); clear BK514; clear BK516; clear HB; have HO519 := n0_; have BK514 := n1_; have BK516 := n2_; have HB := n3_; clear n0_ n1_ n2_ n3_; clear hb ho17; obtain ⟨Ao18, co18, eo18⟩ := Kd.R_slice HO519.out; subst eo18))
       go_loopg [9, 30] k1 (fun kq v9 v30 w' => ∃ (x9_2 : Int) (x30_2 : Int), v9 = .int .i64 x9_2 ∧ v30 = .int .i64 x30_2 ∧ Aside0 (conflict_disturbance.l1 kq a2 a3 x9_2 l1 (l1.length : Int) x16_1 y517 (y517.length : Int) x30_2 a0_0 l0_1 a0_2 a0_3 l0_4 l0_5 = some r) ∧ Aside0 (kq ≤ k1) ∧ Aside0 (Kd.R (Kd.int .i64) 3 w' w.heap.size (fun _ => True) (.slice Ao18 y517.length co18) y517) ∧ Aside0 (w'.heap[gb514]? = some (.cells #[.int .i64 a0_0, (.slice A0_1 l0_1.length c0_1), .int .i64 a0_2, .int .i64 a0_3, (.slice A0_4 l0_4.length c0_4), (.slice A0_5 l0_5.length c0_5)] 26 (0, 0))) ∧ Aside0 (w'.heap[gb516]? = some (.cells #[.int .i64 ((rd_T36 l1 x16_1).f0), .int .i64 ((rd_T36 l1 x16_1).f1), .int .i64 ((rd_T36 l1 x16_1).f2), .int .i64 ((rd_T36 l1 x16_1).f3), .int .i64 ((rd_T36 l1 x16_1).f4)] 36 (0, 0))) ∧ Aside0 (Below w.heap.size w w'))
       case atStart => exact ⟨(x9_1), (0), rl_, rl_, H', ⟨Nat.le_refl _⟩, ⟨kr_ HO519⟩, ⟨bj_ BK514⟩, ⟨bj_ BK516⟩, ⟨hb_⟩⟩
       case round =>
        clear H'
        try clear c1; try clear p2; try clear c3; try clear p5; try clear q5; try clear hx5; try clear c6; try clear c6b0; try clear p6; try clear c7; try clear c7b0; try clear c8; try clear c8b0; try clear c9; try clear c9b0; try clear c9b1; try clear c11; try clear c14; try clear hcz12_0; try clear hcz12_1; try clear hcz12_2; try clear hcz12_3; try clear hcz12_4; try clear hcz15_0; try clear hcz15_1; try clear hcz15_2; try clear hcz15_3; try clear hcz15_4; try clear hfz12_0; try clear hfz12_1; try clear hfz12_2; try clear hfz12_3; try clear hfz12_4; try clear hfz15_0; try clear hfz15_1; try clear hfz15_2; try clear hfz15_3; try clear hfz15_4; try clear hx515_0; try clear hx515_1; try clear hx515_2; try clear hx515_3; try clear hx515_4; try clear p2; try clear p515; try clear q515
        (repeat clear HO_28); (repeat clear BK514); (repeat clear BK516); (repeat clear HB)
        obtain ⟨x9_2, x30_2, rfl, rfl, HA, HK2, HO_28, BK514, BK516, HB⟩ := hrel
        cases gk with
        | zero => exact absurd HA.out (by simp [conflict_disturbance.l1])
        | succ k2 =>
         have H := HA.out
         clear HA
         simp only [conflict_disturbance.l1] at H
         by_cases c19 : x30_2 < (y517.length : Int)
         ·
          rw [if_pos c19] at H
          have c19b0 : decide (x30_2 < (y517.length : Int)) = true := decide_eq_true c19
          clear c19
          by_cases c20 : 0 ≤ x30_2
          ·
           rw [if_pos c20] at H
           have c20b0 : decide (0 ≤ x30_2) = true := decide_eq_true c20
           clear c20
           by_cases c21 : x30_2 < (y517.length : Int)
           ·
            rw [if_pos c21] at H
            have c21b0 : decide (x30_2 < (y517.length : Int)) = true := decide_eq_true c21
            clear c21
            replace H := Option.bind_eq_some_iff.mp H
            obtain ⟨t521, A220, H⟩ := H
            replace H : (if t521 = true then (if 0 ≤ (rd y517 x30_2) then (if (rd y517 x30_2) < (l0_1.length : Int) then (if 0 ≤ a3 then (if a3 < ((rd_L1 l0_1 (rd y517 x30_2)).length : Int) then (conflict_disturbance.l1 k2 a2 a3 (wrap64 (x9_2 + (rd (rd_L1 l0_1 (rd y517 x30_2)) a3))) l1 (l1.length : Int) x16_1 y517 (y517.length : Int) (wrap64 (x30_2 + 1)) a0_0 l0_1 a0_2 a0_3 l0_4 l0_5) else (none)) else (none)) else (none)) else (none)) else (conflict_disturbance.l1 k2 a2 a3 x9_2 l1 (l1.length : Int) x16_1 y517 (y517.length : Int) (wrap64 (x30_2 + 1)) a0_0 l0_1 a0_2 a0_3 l0_4 l0_5)) = some r := H
            have A22 := Aside0.mk A220
            clear A220
            by_cases c23 : t521 = true
            ·
             subst c23
             have H1 : (if 0 ≤ (rd y517 x30_2) then (if (rd y517 x30_2) < (l0_1.length : Int) then (if 0 ≤ a3 then (if a3 < ((rd_L1 l0_1 (rd y517 x30_2)).length : Int) then (conflict_disturbance.l1 k2 a2 a3 (wrap64 (x9_2 + (rd (rd_L1 l0_1 (rd y517 x30_2)) a3))) l1 (l1.length : Int) x16_1 y517 (y517.length : Int) (wrap64 (x30_2 + 1)) a0_0 l0_1 a0_2 a0_3 l0_4 l0_5) else (none)) else (none)) else (none)) else (none)) = some r := by rw [if_pos rfl] at H; exact H
             clear H
             have H := H1
             clear H1
             by_cases c24 : 0 ≤ (rd y517 x30_2)
             ·
              rw [if_pos c24] at H
              have c24b0 : decide (0 ≤ (rd y517 x30_2)) = true := decide_eq_true c24
              clear c24
              by_cases c25 : (rd y517 x30_2) < (l0_1.length : Int)
              ·
               rw [if_pos c25] at H
               have c25b0 : decide ((rd y517 x30_2) < (l0_1.length : Int)) = true := decide_eq_true c25
               clear c25
               by_cases c26 : 0 ≤ a3
               ·
                rw [if_pos c26] at H
                have c26b0 : decide (0 ≤ a3) = true := decide_eq_true c26
                clear c26
                by_cases c27 : a3 < ((rd_L1 l0_1 (rd y517 x30_2)).length : Int)
                ·
                 rw [if_pos c27] at H
                 have c27b0 : decide (a3 < ((rd_L1 l0_1 (rd y517 x30_2)).length : Int)) = true := decide_eq_true c27
                 clear c27
                 have H' := Aside0.mk H
                 clear H
                 have p520 : 0 ≤ (x30_2 : Int) := of_decide_eq_true (by assumption)
                 have q520 : x30_2 < (y517.length : Int) := of_decide_eq_true (by assumption)
                 obtain ⟨ad520, e520, hx520_0⟩ := Kd.at_int (Kd.R_reads' HO_28.out).2.2 x30_2 p520 q520
                 cases e520
                 replace p520 := eq_true p520
                 replace q520 := eq_true q520
                 have hnb28 := NB514_516.out
                 have hnc28 := NB516_514.out
                 have hcz29_0 := bc0 BK514
                 have hcz29_1 := bc1 BK514
                 have hcz29_2 := bc2 BK514
                 have hcz29_3 := bc3 BK514
                 have hcz29_4 := bc4 BK514
                 have hcz29_5 := bc5 BK514
                 have hfz29_0 := blk_frozen BK514.out 0
                 have hfz29_1 := blk_frozen BK514.out 1
                 have hfz29_2 := blk_frozen BK514.out 2
                 have hfz29_3 := blk_frozen BK514.out 3
                 have hfz29_4 := blk_frozen BK514.out 4
                 have hfz29_5 := blk_frozen BK514.out 5
                 go_wp2_with (first | ((with_reducible refine gate_callee (f := 37) rfl ?_); refine goesL_ (some 36) rfl rfl Try.func37 (by kernel_rfl) rfl #[.agg #[.int .i64 a0_0, .slice A0_1 l0_1.length c0_1, .int .i64 a0_2, .int .i64 a0_3, .slice A0_4 l0_4.length c0_4, .slice A0_5 l0_5.length c0_5], .int .i64 (rd y517 x30_2)] rfl am_ ?_; (with_reducible refine (conflict_isNode.calls a0_0 _ _ l0_1 a0_2 a0_3 _ _ l0_4 _ _ l0_5 (rd y517 x30_2) true _ ?side1 ?side2 ?side3 ?side4 ?side5 ?side6 A22.out).mono ?_); (case side1 | side3 | side5 => exact cb_); (case side2 | side4 | side6 => first | exact HC0_1.out | exact HC0_4.out | exact HC0_5.out); rintro e w30 ⟨rfl, hb⟩; refine ⟨_, rfl, ?_⟩; have n0_ := Aside0.mk (Kd.R_below (kr_ HO_28) hb); have n1_ := bk_ BK514 hb; have n2_ := bk_ BK516 hb; have n3_ := Aside0.mk (below_step hb_ hb); clear HO_28; clear BK514; clear BK516; clear HB; have HO_28 := n0_; have BK514 := n1_; have BK516 := n2_; have HB := n3_; clear n0_ n1_ n2_ n3_; (try clear hb); (try clear hb2); (try clear hk); (try clear hi); have hcz31_0 := bc0 BK514; have hcz31_1 := bc1 BK514; have hcz31_2 := bc2 BK514; have hcz31_3 := bc3 BK514; have hcz31_4 := bc4 BK514; have hcz31_5 := bc5 BK514; have hfz31_0 := blk_frozen BK514.out 0; have hfz31_1 := blk_frozen BK514.out 1; have hfz31_2 := blk_frozen BK514.out 2; have hfz31_3 := blk_frozen BK514.out 3; have hfz31_4 := blk_frozen BK514.out 4; have hfz31_5 := blk_frozen BK514.out 5; have p522 : 0 ≤ ((rd y517 x30_2) : Int) := of_decide_eq_true (by assumption); have q522 : (rd y517 x30_2) < (l0_1.length : Int) := of_decide_eq_true (by assumption); obtain ⟨ad522, A522_0, c522_0, e522, hx522_0, hl522_0, hi522_0⟩ := at_L1 HR0_1.out (rd y517 x30_2) p522 q522; cases e522; replace hx522_0 := (HB.out.cell (World.block_lt_of_cell? w _ hx522_0)).trans hx522_0; have HR522_0 := Aside0.mk hi522_0; have HC522_0 := Aside0.mk hl522_0; clear hi522_0 hl522_0; replace p522 := eq_true p522; replace q522 := eq_true q522; have p523 : 0 ≤ (a3 : Int) := of_decide_eq_true (by assumption); have q523 : a3 < ((rd_L1 l0_1 (rd y517 x30_2)).length : Int) := of_decide_eq_true (by assumption); obtain ⟨ad523, e523, hx523_0⟩ := Kd.at_int HR522_0.out a3 p523 q523; cases e523; replace hx523_0 := (HB.out.cell (World.block_lt_of_cell? w _ hx523_0)).trans hx523_0; replace p523 := eq_true p523; replace q523 := eq_true q523))
                 go_roundg k2
                 case measure => have := HK1.out; have := HK2.out; omega
                 case rel => exact ⟨(wrap64 (x9_2 + (rd (rd_L1 l0_1 (rd y517 x30_2)) a3))), (wrap64 (x30_2 + 1)), rl_, rl_, H', ⟨by have := HK1.out; have := HK2.out; omega⟩, ⟨kr_ HO_28⟩, ⟨bj_ BK514⟩, ⟨bj_ BK516⟩, ⟨hb_⟩⟩
                ·
                 rw [if_neg c27] at H
                 exact absurd H (by simp)
               ·
                rw [if_neg c26] at H
                exact absurd H (by simp)
              ·
               rw [if_neg c25] at H
               exact absurd H (by simp)
             ·
              rw [if_neg c24] at H
              exact absurd H (by simp)
            ·
             replace c23 := Bool.eq_false_iff.mpr c23
             subst c23
             have H1 : (conflict_disturbance.l1 k2 a2 a3 x9_2 l1 (l1.length : Int) x16_1 y517 (y517.length : Int) (wrap64 (x30_2 + 1)) a0_0 l0_1 a0_2 a0_3 l0_4 l0_5) = some r := by rw [if_neg (show ¬ (false = true) by decide)] at H; exact H
             clear H
             have H := H1
             clear H1
             have H' := Aside0.mk H
             clear H
             have p520 : 0 ≤ (x30_2 : Int) := of_decide_eq_true (by assumption)
             have q520 : x30_2 < (y517.length : Int) := of_decide_eq_true (by assumption)
             obtain ⟨ad520, e520, hx520_0⟩ := Kd.at_int (Kd.R_reads' HO_28.out).2.2 x30_2 p520 q520
             cases e520
             replace p520 := eq_true p520
             replace q520 := eq_true q520
             have hnb32 := NB514_516.out
             have hnc32 := NB516_514.out
             have hcz33_0 := bc0 BK514
             have hcz33_1 := bc1 BK514
             have hcz33_2 := bc2 BK514
             have hcz33_3 := bc3 BK514
             have hcz33_4 := bc4 BK514
             have hcz33_5 := bc5 BK514
             have hfz33_0 := blk_frozen BK514.out 0
             have hfz33_1 := blk_frozen BK514.out 1
             have hfz33_2 := blk_frozen BK514.out 2
             have hfz33_3 := blk_frozen BK514.out 3
             have hfz33_4 := blk_frozen BK514.out 4
             have hfz33_5 := blk_frozen BK514.out 5
             go_wp2_with (first | ((with_reducible refine gate_callee (f := 37) rfl ?_); refine goesL_ (some 36) rfl rfl Try.func37 (by kernel_rfl) rfl #[.agg #[.int .i64 a0_0, .slice A0_1 l0_1.length c0_1, .int .i64 a0_2, .int .i64 a0_3, .slice A0_4 l0_4.length c0_4, .slice A0_5 l0_5.length c0_5], .int .i64 (rd y517 x30_2)] rfl am_ ?_; (with_reducible refine (conflict_isNode.calls a0_0 _ _ l0_1 a0_2 a0_3 _ _ l0_4 _ _ l0_5 (rd y517 x30_2) false _ ?side1 ?side2 ?side3 ?side4 ?side5 ?side6 A22.out).mono ?_); (case side1 | side3 | side5 => exact cb_); (case side2 | side4 | side6 => first | exact HC0_1.out | exact HC0_4.out | exact HC0_5.out); rintro e w34 ⟨rfl, hb⟩; refine ⟨_, rfl, ?_⟩; have n0_ := Aside0.mk (Kd.R_below (kr_ HO_28) hb); have n1_ := bk_ BK514 hb; have n2_ := bk_ BK516 hb; have n3_ := Aside0.mk (below_step hb_ hb); clear HO_28; clear BK514; clear BK516; clear HB; have HO_28 := n0_; have BK514 := n1_; have BK516 := n2_; have HB := n3_; clear n0_ n1_ n2_ n3_; (try clear hb); (try clear hb2); (try clear hk); (try clear hi)))
             go_roundg k2
             case measure => have := HK1.out; have := HK2.out; omega
             case rel => exact ⟨(x9_2), (wrap64 (x30_2 + 1)), rl_, rl_, H', ⟨by have := HK1.out; have := HK2.out; omega⟩, ⟨kr_ HO_28⟩, ⟨bj_ BK514⟩, ⟨bj_ BK516⟩, ⟨hb_⟩⟩
           ·
            rw [if_neg c21] at H
            exact absurd H (by simp)
          ·
           rw [if_neg c20] at H
           exact absurd H (by simp)
         ·
          rw [if_neg c19] at H
          have c19b0 : decide (x30_2 < (y517.length : Int)) = false := decide_eq_false c19
          clear c19
          have H' := Aside0.mk H
          clear H
          go_wp2
          go_roundg k2
          case measure => have := HK1.out; have := HK2.out; omega
          case rel => exact ⟨(x9_2), (wrap64 (x16_1 + 1)), rl_, rl_, H', ⟨by have := HK1.out; have := HK2.out; omega⟩, ⟨bj_ BK514⟩, ⟨hb_⟩⟩
     ·
      rw [if_neg c8] at H
      exact absurd H (by simp)
    ·
     rw [if_neg c7] at H
     exact absurd H (by simp)
   ·
    rw [if_neg c6] at H
    have c6b0 : decide (x16_1 < (l1.length : Int)) = false := decide_eq_false c6
    clear c6
    obtain rfl := Option.some.inj H
    go_wp2
    go_ret
    exact ⟨er_, hb_⟩

/-! ### conflict_touches: function 72 -/
def conflict_touches.f (a0_0 : Int) (a0_1 : Int) (a0_2 : Int) (a0_3 : Int) (a0_4 : Int) (a1_0 : Int) (a1_1 : Int) (a1_2 : Int) (a1_3 : Int) (a1_4 : Int) : Option (Bool) := if a0_2 = a1_2 then (some true) else (if a0_2 = a1_3 then (some true) else (if a0_3 = a1_2 then (some true) else (some (a0_3 == a1_3))))
set_option maxHeartbeats 8000000 in
set_option maxRecDepth 100000 in
theorem conflict_touches.calls (a0_0 : Int) (a0_1 : Int) (a0_2 : Int) (a0_3 : Int) (a0_4 : Int) (a1_0 : Int) (a1_1 : Int) (a1_2 : Int) (a1_3 : Int) (a1_4 : Int) (r : Bool) (w : World) (h : conflict_touches.f a0_0 a0_1 a0_2 a0_3 a0_4 a1_0 a1_1 a1_2 a1_3 a1_4 = some r) :
  Calls Try.prog 72 #[.agg #[.int .i64 a0_0, .int .i64 a0_1, .int .i64 a0_2, .int .i64 a0_3, .int .i64 a0_4], .agg #[.int .i64 a1_0, .int .i64 a1_1, .int .i64 a1_2, .int .i64 a1_3, .int .i64 a1_4]] w fun e w' => e = .returned (.bool r) ∧ Below w.heap.size w w' := by
 have hu36 := Try.underlying36
 have HB := Aside0.mk (Below.refl w.heap.size w)
 have H : (if a0_2 = a1_2 then (some true) else (if a0_2 = a1_3 then (some true) else (if a0_3 = a1_2 then (some true) else (some (a0_3 == a1_3))))) = some r := h
 clear h
 by_cases c3 : a0_2 = a1_2
 ·
  rw [if_pos c3] at H
  have c3b0 : (a0_2 == a1_2) = true := beq_iff_eq.mpr c3
  have c3b1 : (a0_2 != a1_2) = false := bne_eq_false_iff_eq.mpr c3
  clear c3
  obtain rfl := Option.some.inj H
  go_enter Try.func72, Try.ntmps72
  go_wp2_with (first | ((with_reducible refine gate_dst (N := 2) rfl ?_); refine bx_ 2 #[.int .i64 a0_0, .int .i64 a0_1, .int .i64 a0_2, .int .i64 a0_3, .int .i64 a0_4] 36 ?_; intro gb524 hg w4 hbox hb; have n0_ := Aside0.mk (below_step hb_ hb); have n1_ := Aside0.mk (hbox); have n2_ := Aside0.mk ((by rw [hg]; exact (below_size hb_) : w.heap.size ≤ gb524)); have n3_ := Aside0.mk ((by rw [hg]; exact (below_size hb_) : w.heap.size ≤ gb524)); clear HB; have HB := n0_; have BK524 := n1_; have GW524 := n2_; have GE524 := n3_; clear n0_ n1_ n2_ n3_; clear hb hbox hg) | ((with_reducible refine gate_dst (N := 3) rfl ?_); refine bx_ 3 #[.int .i64 a1_0, .int .i64 a1_1, .int .i64 a1_2, .int .i64 a1_3, .int .i64 a1_4] 36 ?_; intro gb525 hg w5 hbox hb; have n0_ := bk_ BK524 hb; have n1_ := Aside0.mk (below_step hb_ hb); have n2_ := Aside0.mk (hbox); have n3_ := Aside0.mk ((by rw [hg]; exact (below_size hb_) : w.heap.size ≤ gb525)); have n4_ := Aside0.mk ((by rw [hg]; exact (below_size hb_) : w.heap.size ≤ gb525)); have n5_ := Aside0.mk ((by rw [hg]; exact Nat.ne_of_lt (blk_lt (bj_ BK524)) : gb524 ≠ gb525)); have n6_ := Aside0.mk ((by rw [hg]; exact Nat.ne_of_gt (blk_lt (bj_ BK524)) : gb525 ≠ gb524)); clear BK524; clear HB; have BK524 := n0_; have HB := n1_; have BK525 := n2_; have GW525 := n3_; have GE525 := n4_; have NB524_525 := n5_; have NB525_524 := n6_; clear n0_ n1_ n2_ n3_ n4_ n5_ n6_; clear hb hbox hg; have hnb6 := NB524_525.out; have hnc6 := NB525_524.out; have hcz7_0 := bc0 BK524; have hcz7_1 := bc1 BK524; have hcz7_2 := bc2 BK524; have hcz7_3 := bc3 BK524; have hcz7_4 := bc4 BK524; have hfz7_0 := blk_frozen BK524.out 0; have hfz7_1 := blk_frozen BK524.out 1; have hfz7_2 := blk_frozen BK524.out 2; have hfz7_3 := blk_frozen BK524.out 3; have hfz7_4 := blk_frozen BK524.out 4; have hcz8_0 := bc0 BK525; have hcz8_1 := bc1 BK525; have hcz8_2 := bc2 BK525; have hcz8_3 := bc3 BK525; have hcz8_4 := bc4 BK525; have hfz8_0 := blk_frozen BK525.out 0; have hfz8_1 := blk_frozen BK525.out 1; have hfz8_2 := blk_frozen BK525.out 2; have hfz8_3 := blk_frozen BK525.out 3; have hfz8_4 := blk_frozen BK525.out 4))
  go_ret
  exact ⟨er_, hb_⟩
 ·
  rw [if_neg c3] at H
  have c3b0 : (a0_2 == a1_2) = false := beq_eq_false_iff_ne.mpr c3
  have c3b1 : (a0_2 != a1_2) = true := bne_iff_ne.mpr c3
  by_cases c9 : a0_2 = a1_3
  ·
   rw [if_pos c9] at H
   have c9b0 : (a0_2 == a1_3) = true := beq_iff_eq.mpr c9
   have c9b1 : (a0_2 != a1_3) = false := bne_eq_false_iff_eq.mpr c9
   clear c9
   obtain rfl := Option.some.inj H
   go_enter Try.func72, Try.ntmps72
   go_wp2_with (first | ((with_reducible refine gate_dst (N := 2) rfl ?_); refine bx_ 2 #[.int .i64 a0_0, .int .i64 a0_1, .int .i64 a0_2, .int .i64 a0_3, .int .i64 a0_4] 36 ?_; intro gb524 hg w10 hbox hb; have n0_ := Aside0.mk (below_step hb_ hb); have n1_ := Aside0.mk (hbox); have n2_ := Aside0.mk ((by rw [hg]; exact (below_size hb_) : w.heap.size ≤ gb524)); have n3_ := Aside0.mk ((by rw [hg]; exact (below_size hb_) : w.heap.size ≤ gb524)); clear HB; have HB := n0_; have BK524 := n1_; have GW524 := n2_; have GE524 := n3_; clear n0_ n1_ n2_ n3_; clear hb hbox hg) | ((with_reducible refine gate_dst (N := 3) rfl ?_); refine bx_ 3 #[.int .i64 a1_0, .int .i64 a1_1, .int .i64 a1_2, .int .i64 a1_3, .int .i64 a1_4] 36 ?_; intro gb525 hg w11 hbox hb; have n0_ := bk_ BK524 hb; have n1_ := Aside0.mk (below_step hb_ hb); have n2_ := Aside0.mk (hbox); have n3_ := Aside0.mk ((by rw [hg]; exact (below_size hb_) : w.heap.size ≤ gb525)); have n4_ := Aside0.mk ((by rw [hg]; exact (below_size hb_) : w.heap.size ≤ gb525)); have n5_ := Aside0.mk ((by rw [hg]; exact Nat.ne_of_lt (blk_lt (bj_ BK524)) : gb524 ≠ gb525)); have n6_ := Aside0.mk ((by rw [hg]; exact Nat.ne_of_gt (blk_lt (bj_ BK524)) : gb525 ≠ gb524)); clear BK524; clear HB; have BK524 := n0_; have HB := n1_; have BK525 := n2_; have GW525 := n3_; have GE525 := n4_; have NB524_525 := n5_; have NB525_524 := n6_; clear n0_ n1_ n2_ n3_ n4_ n5_ n6_; clear hb hbox hg; have hnb12 := NB524_525.out; have hnc12 := NB525_524.out; have hcz13_0 := bc0 BK524; have hcz13_1 := bc1 BK524; have hcz13_2 := bc2 BK524; have hcz13_3 := bc3 BK524; have hcz13_4 := bc4 BK524; have hfz13_0 := blk_frozen BK524.out 0; have hfz13_1 := blk_frozen BK524.out 1; have hfz13_2 := blk_frozen BK524.out 2; have hfz13_3 := blk_frozen BK524.out 3; have hfz13_4 := blk_frozen BK524.out 4; have hcz14_0 := bc0 BK525; have hcz14_1 := bc1 BK525; have hcz14_2 := bc2 BK525; have hcz14_3 := bc3 BK525; have hcz14_4 := bc4 BK525; have hfz14_0 := blk_frozen BK525.out 0; have hfz14_1 := blk_frozen BK525.out 1; have hfz14_2 := blk_frozen BK525.out 2; have hfz14_3 := blk_frozen BK525.out 3; have hfz14_4 := blk_frozen BK525.out 4))
   go_ret
   exact ⟨er_, hb_⟩
  ·
   rw [if_neg c9] at H
   have c9b0 : (a0_2 == a1_3) = false := beq_eq_false_iff_ne.mpr c9
   have c9b1 : (a0_2 != a1_3) = true := bne_iff_ne.mpr c9
   by_cases c15 : a0_3 = a1_2
   ·
    rw [if_pos c15] at H
    have c15b0 : (a0_3 == a1_2) = true := beq_iff_eq.mpr c15
    have c15b1 : (a0_3 != a1_2) = false := bne_eq_false_iff_eq.mpr c15
    clear c15
    obtain rfl := Option.some.inj H
    go_enter Try.func72, Try.ntmps72
    go_wp2_with (first | ((with_reducible refine gate_dst (N := 2) rfl ?_); refine bx_ 2 #[.int .i64 a0_0, .int .i64 a0_1, .int .i64 a0_2, .int .i64 a0_3, .int .i64 a0_4] 36 ?_; intro gb524 hg w16 hbox hb; have n0_ := Aside0.mk (below_step hb_ hb); have n1_ := Aside0.mk (hbox); have n2_ := Aside0.mk ((by rw [hg]; exact (below_size hb_) : w.heap.size ≤ gb524)); have n3_ := Aside0.mk ((by rw [hg]; exact (below_size hb_) : w.heap.size ≤ gb524)); clear HB; have HB := n0_; have BK524 := n1_; have GW524 := n2_; have GE524 := n3_; clear n0_ n1_ n2_ n3_; clear hb hbox hg) | ((with_reducible refine gate_dst (N := 3) rfl ?_); refine bx_ 3 #[.int .i64 a1_0, .int .i64 a1_1, .int .i64 a1_2, .int .i64 a1_3, .int .i64 a1_4] 36 ?_; intro gb525 hg w17 hbox hb; have n0_ := bk_ BK524 hb; have n1_ := Aside0.mk (below_step hb_ hb); have n2_ := Aside0.mk (hbox); have n3_ := Aside0.mk ((by rw [hg]; exact (below_size hb_) : w.heap.size ≤ gb525)); have n4_ := Aside0.mk ((by rw [hg]; exact (below_size hb_) : w.heap.size ≤ gb525)); have n5_ := Aside0.mk ((by rw [hg]; exact Nat.ne_of_lt (blk_lt (bj_ BK524)) : gb524 ≠ gb525)); have n6_ := Aside0.mk ((by rw [hg]; exact Nat.ne_of_gt (blk_lt (bj_ BK524)) : gb525 ≠ gb524)); clear BK524; clear HB; have BK524 := n0_; have HB := n1_; have BK525 := n2_; have GW525 := n3_; have GE525 := n4_; have NB524_525 := n5_; have NB525_524 := n6_; clear n0_ n1_ n2_ n3_ n4_ n5_ n6_; clear hb hbox hg; have hnb18 := NB524_525.out; have hnc18 := NB525_524.out; have hcz19_0 := bc0 BK524; have hcz19_1 := bc1 BK524; have hcz19_2 := bc2 BK524; have hcz19_3 := bc3 BK524; have hcz19_4 := bc4 BK524; have hfz19_0 := blk_frozen BK524.out 0; have hfz19_1 := blk_frozen BK524.out 1; have hfz19_2 := blk_frozen BK524.out 2; have hfz19_3 := blk_frozen BK524.out 3; have hfz19_4 := blk_frozen BK524.out 4; have hcz20_0 := bc0 BK525; have hcz20_1 := bc1 BK525; have hcz20_2 := bc2 BK525; have hcz20_3 := bc3 BK525; have hcz20_4 := bc4 BK525; have hfz20_0 := blk_frozen BK525.out 0; have hfz20_1 := blk_frozen BK525.out 1; have hfz20_2 := blk_frozen BK525.out 2; have hfz20_3 := blk_frozen BK525.out 3; have hfz20_4 := blk_frozen BK525.out 4))
    go_ret
    exact ⟨er_, hb_⟩
   ·
    rw [if_neg c15] at H
    have c15b0 : (a0_3 == a1_2) = false := beq_eq_false_iff_ne.mpr c15
    have c15b1 : (a0_3 != a1_2) = true := bne_iff_ne.mpr c15
    obtain rfl := Option.some.inj H
    go_enter Try.func72, Try.ntmps72
    go_wp2_with (first | ((with_reducible refine gate_dst (N := 2) rfl ?_); refine bx_ 2 #[.int .i64 a0_0, .int .i64 a0_1, .int .i64 a0_2, .int .i64 a0_3, .int .i64 a0_4] 36 ?_; intro gb524 hg w21 hbox hb; have n0_ := Aside0.mk (below_step hb_ hb); have n1_ := Aside0.mk (hbox); have n2_ := Aside0.mk ((by rw [hg]; exact (below_size hb_) : w.heap.size ≤ gb524)); have n3_ := Aside0.mk ((by rw [hg]; exact (below_size hb_) : w.heap.size ≤ gb524)); clear HB; have HB := n0_; have BK524 := n1_; have GW524 := n2_; have GE524 := n3_; clear n0_ n1_ n2_ n3_; clear hb hbox hg) | ((with_reducible refine gate_dst (N := 3) rfl ?_); refine bx_ 3 #[.int .i64 a1_0, .int .i64 a1_1, .int .i64 a1_2, .int .i64 a1_3, .int .i64 a1_4] 36 ?_; intro gb525 hg w22 hbox hb; have n0_ := bk_ BK524 hb; have n1_ := Aside0.mk (below_step hb_ hb); have n2_ := Aside0.mk (hbox); have n3_ := Aside0.mk ((by rw [hg]; exact (below_size hb_) : w.heap.size ≤ gb525)); have n4_ := Aside0.mk ((by rw [hg]; exact (below_size hb_) : w.heap.size ≤ gb525)); have n5_ := Aside0.mk ((by rw [hg]; exact Nat.ne_of_lt (blk_lt (bj_ BK524)) : gb524 ≠ gb525)); have n6_ := Aside0.mk ((by rw [hg]; exact Nat.ne_of_gt (blk_lt (bj_ BK524)) : gb525 ≠ gb524)); clear BK524; clear HB; have BK524 := n0_; have HB := n1_; have BK525 := n2_; have GW525 := n3_; have GE525 := n4_; have NB524_525 := n5_; have NB525_524 := n6_; clear n0_ n1_ n2_ n3_ n4_ n5_ n6_; clear hb hbox hg; have hnb23 := NB524_525.out; have hnc23 := NB525_524.out; have hcz24_0 := bc0 BK524; have hcz24_1 := bc1 BK524; have hcz24_2 := bc2 BK524; have hcz24_3 := bc3 BK524; have hcz24_4 := bc4 BK524; have hfz24_0 := blk_frozen BK524.out 0; have hfz24_1 := blk_frozen BK524.out 1; have hfz24_2 := blk_frozen BK524.out 2; have hfz24_3 := blk_frozen BK524.out 3; have hfz24_4 := blk_frozen BK524.out 4; have hcz25_0 := bc0 BK525; have hcz25_1 := bc1 BK525; have hcz25_2 := bc2 BK525; have hcz25_3 := bc3 BK525; have hcz25_4 := bc4 BK525; have hfz25_0 := blk_frozen BK525.out 0; have hfz25_1 := blk_frozen BK525.out 1; have hfz25_2 := blk_frozen BK525.out 2; have hfz25_3 := blk_frozen BK525.out 3; have hfz25_4 := blk_frozen BK525.out 4))
    go_ret
    exact ⟨er_, hb_⟩

end Go.Proofs.Ytibgcekekmphoaa.P34
