-- Written by a program of this session (wip/tools) over the kit's print; Lean checks it.
import Derived.Test.YtibgcekekmphoaaP340
import Derived.Test.YtibgcekekmphoaaP34A
namespace Go.Proofs.Ytibgcekekmphoaa.P34
open Go.RowKit Go.Proofs.YtibgcekekmphoaaW.PrintWords Go.Proofs.YtibgcekekmphoaaW.PrintLast Go.Proofs.YtibgcekekmphoaaW.PrintMore
attribute [local go_sem] max2_int min2_int max_two min_two max_three min_three max_four min_four   -- for this text's walks alone
set_option linter.unusedVariables false
set_option linter.unusedSimpArgs false

/-! ### hopmeshref31_table: function 62 -/
mutual
def hopmeshref31_table.l0 : Nat → Int → Int → List (List Int) → Int → Int → List (S44) → List Int → Option (Int)
 | 0, _, _, _, _, _, _, _ => none
 | k + 1, x3, x104000, x104001, x104002, x104003, x104004, x104005 => if x3 < x104000 then (if 0 ≤ x3 then (if x3 < (x104001.length : Int) then (if ((rd_L1 x104001 x3).length : Int) = x104000 then (hopmeshref31_table.l0 k (wrap64 (x3 + 1)) x104000 x104001 x104002 x104003 x104004 x104005) else (some 1)) else (none)) else (none)) else (hopmeshref31_table.l1 k 0 x104000 x104001 x104002 x104003 x104004 x104005)
def hopmeshref31_table.l1 : Nat → Int → Int → List (List Int) → Int → Int → List (S44) → List Int → Option (Int)
 | 0, _, _, _, _, _, _, _ => none
 | k + 1, x4, x104000, x104001, x104002, x104003, x104004, x104005 => if x4 < x104000 then (hopmeshref31_table.l2 k x4 0 x104000 x104001 x104002 x104003 x104004 x104005) else (some 0)
def hopmeshref31_table.l2 : Nat → Int → Int → Int → List (List Int) → Int → Int → List (S44) → List Int → Option (Int)
 | 0, _, _, _, _, _, _, _, _ => none
 | k + 1, x4, x5, x104000, x104001, x104002, x104003, x104004, x104005 => if x5 < x104000 then (if 0 ≤ x4 then (if x4 < (x104001.length : Int) then (if 0 ≤ x5 then (if x5 < ((rd_L1 x104001 x4).length : Int) then ((hopmeshref31_in.f (rd (rd_L1 x104001 x4) x5) 0 68719476736).bind fun t107 => (if t107 = true then (hopmeshref31_table.l2 k x4 (wrap64 (x5 + 1)) x104000 x104001 x104002 x104003 x104004 x104005) else (some 2))) else (none)) else (none)) else (none)) else (none)) else (hopmeshref31_table.l1 k (wrap64 (x4 + 1)) x104000 x104001 x104002 x104003 x104004 x104005)
end
def hopmeshref31_table.f (k : Nat) (a0_0 : Int) (l0_1 : List (List Int)) (a0_2 : Int) (a0_3 : Int) (l0_4 : List (S44)) (l0_5 : List Int) : Option (Int) := if (l0_1.length : Int) = a0_0 then (hopmeshref31_table.l0 k 0 a0_0 l0_1 a0_2 a0_3 l0_4 l0_5) else (some 1)
theorem hopmeshref31_table.mono_l : ∀ k, (∀ y0 y1 y2 y3 y4 y5 y6, LeO (hopmeshref31_table.l0 k y0 y1 y2 y3 y4 y5 y6) (hopmeshref31_table.l0 (k + 1) y0 y1 y2 y3 y4 y5 y6)) ∧ (∀ y0 y1 y2 y3 y4 y5 y6, LeO (hopmeshref31_table.l1 k y0 y1 y2 y3 y4 y5 y6) (hopmeshref31_table.l1 (k + 1) y0 y1 y2 y3 y4 y5 y6)) ∧ (∀ y0 y1 y2 y3 y4 y5 y6 y7, LeO (hopmeshref31_table.l2 k y0 y1 y2 y3 y4 y5 y6 y7) (hopmeshref31_table.l2 (k + 1) y0 y1 y2 y3 y4 y5 y6 y7))
 | 0 => ⟨fun _ _ _ _ _ _ _ r h => by simp [hopmeshref31_table.l0] at h, fun _ _ _ _ _ _ _ r h => by simp [hopmeshref31_table.l1] at h, fun _ _ _ _ _ _ _ _ r h => by simp [hopmeshref31_table.l2] at h⟩
 | k + 1 => by
  obtain ⟨ih0, ih1, ih2⟩ := hopmeshref31_table.mono_l k
  refine ⟨?_, ?_, ?_⟩
  ·
   intro y0 y1 y2 y3 y4 y5 y6
   unfold hopmeshref31_table.l0
   repeat' first
   | (with_reducible exact ih0 _ _ _ _ _ _ _)
   | (with_reducible exact ih1 _ _ _ _ _ _ _)
   | (with_reducible exact ih2 _ _ _ _ _ _ _ _)
   | (with_reducible exact LeO.refl _)
   | (with_reducible exact LeO.none _)
   | (with_reducible refine LeO.ite ?_ ?_)
   | (with_reducible refine LeO.bind ?_ (fun _ => ?_))
   | exact ih0 _ _ _ _ _ _ _
   | exact ih1 _ _ _ _ _ _ _
   | exact ih2 _ _ _ _ _ _ _ _
   | exact LeO.none _
   | refine LeO.ite ?_ ?_
   | refine LeO.bind ?_ (fun _ => ?_)
  ·
   intro y0 y1 y2 y3 y4 y5 y6
   unfold hopmeshref31_table.l1
   repeat' first
   | (with_reducible exact ih0 _ _ _ _ _ _ _)
   | (with_reducible exact ih1 _ _ _ _ _ _ _)
   | (with_reducible exact ih2 _ _ _ _ _ _ _ _)
   | (with_reducible exact LeO.refl _)
   | (with_reducible exact LeO.none _)
   | (with_reducible refine LeO.ite ?_ ?_)
   | (with_reducible refine LeO.bind ?_ (fun _ => ?_))
   | exact ih0 _ _ _ _ _ _ _
   | exact ih1 _ _ _ _ _ _ _
   | exact ih2 _ _ _ _ _ _ _ _
   | exact LeO.none _
   | refine LeO.ite ?_ ?_
   | refine LeO.bind ?_ (fun _ => ?_)
  ·
   intro y0 y1 y2 y3 y4 y5 y6 y7
   unfold hopmeshref31_table.l2
   repeat' first
   | (with_reducible exact ih0 _ _ _ _ _ _ _)
   | (with_reducible exact ih1 _ _ _ _ _ _ _)
   | (with_reducible exact ih2 _ _ _ _ _ _ _ _)
   | (with_reducible exact LeO.refl _)
   | (with_reducible exact LeO.none _)
   | (with_reducible refine LeO.ite ?_ ?_)
   | (with_reducible refine LeO.bind ?_ (fun _ => ?_))
   | exact ih0 _ _ _ _ _ _ _
   | exact ih1 _ _ _ _ _ _ _
   | exact ih2 _ _ _ _ _ _ _ _
   | exact LeO.none _
   | refine LeO.ite ?_ ?_
   | refine LeO.bind ?_ (fun _ => ?_)
theorem hopmeshref31_table.mono : ∀ a0 a1 a2 a3 a4 a5 k, LeO (hopmeshref31_table.f k a0 a1 a2 a3 a4 a5) (hopmeshref31_table.f (k + 1) a0 a1 a2 a3 a4 a5) := by
 intro a0 a1 a2 a3 a4 a5 k
 obtain ⟨ih0, ih1, ih2⟩ := hopmeshref31_table.mono_l k
 unfold hopmeshref31_table.f
 repeat' first
   | (with_reducible exact ih0 _ _ _ _ _ _ _)
   | (with_reducible exact ih1 _ _ _ _ _ _ _)
   | (with_reducible exact ih2 _ _ _ _ _ _ _ _)
   | (with_reducible exact LeO.refl _)
   | (with_reducible exact LeO.none _)
   | (with_reducible refine LeO.ite ?_ ?_)
   | (with_reducible refine LeO.bind ?_ (fun _ => ?_))
   | exact ih0 _ _ _ _ _ _ _
   | exact ih1 _ _ _ _ _ _ _
   | exact ih2 _ _ _ _ _ _ _ _
   | exact LeO.none _
   | refine LeO.ite ?_ ?_
   | refine LeO.bind ?_ (fun _ => ?_)
set_option maxHeartbeats 8000000 in
set_option maxRecDepth 100000 in
theorem hopmeshref31_table.calls (k : Nat) (a0_0 : Int) (A0_1 : Option Addr) (c0_1 : Nat) (l0_1 : List (List Int)) (a0_2 : Int) (a0_3 : Int) (A0_4 : Option Addr) (c0_4 : Nat) (l0_4 : List (S44)) (A0_5 : Option Addr) (c0_5 : Nat) (l0_5 : List Int) (r : Int) (w : World) (hr0_1 : Kd.C (Kd.slice 3 (Kd.int .i64)) w A0_1 l0_1.length l0_1) (hc0_1 : l0_1.length ≤ c0_1) (hr0_4 : Kd.C k44 w A0_4 l0_4.length l0_4) (hc0_4 : l0_4.length ≤ c0_4) (hr0_5 : Kd.C (Kd.int .i64) w A0_5 l0_5.length l0_5) (hc0_5 : l0_5.length ≤ c0_5) (h : hopmeshref31_table.f k a0_0 l0_1 a0_2 a0_3 l0_4 l0_5 = some r) :
  Calls Try.prog 62 #[.agg #[.int .i64 a0_0, .slice A0_1 l0_1.length c0_1, .int .i64 a0_2, .int .i64 a0_3, .slice A0_4 l0_4.length c0_4, .slice A0_5 l0_5.length c0_5]] w fun e w' => e = .returned (.int .i64 r) ∧ Below w.heap.size w w' := by
 have hu26 := Try.underlying26
 have HR0_1 := Aside0.mk hr0_1
 have HC0_1 := Aside0.mk hc0_1
 clear hr0_1 hc0_1
 have HR0_4 := Aside0.mk hr0_4
 have HC0_4 := Aside0.mk hc0_4
 clear hr0_4 hc0_4
 have HR0_5 := Aside0.mk hr0_5
 have HC0_5 := Aside0.mk hc0_5
 clear hr0_5 hc0_5
 have HB := Aside0.mk (Below.refl w.heap.size w)
 have H : (if (l0_1.length : Int) = a0_0 then (hopmeshref31_table.l0 k 0 a0_0 l0_1 a0_2 a0_3 l0_4 l0_5) else (some 1)) = some r := h
 clear h
 by_cases c2 : (l0_1.length : Int) = a0_0
 ·
  rw [if_pos c2] at H
  have c2b0 : ((l0_1.length : Int) == a0_0) = true := beq_iff_eq.mpr c2
  have c2b1 : ((l0_1.length : Int) != a0_0) = false := bne_eq_false_iff_eq.mpr c2
  clear c2
  have H' := Aside0.mk H
  clear H
  go_enter Try.func62, Try.ntmps62
  go_wp2_with (first | ((with_reducible refine gate_dst (N := 1) rfl ?_); refine bx_ 1 #[.int .i64 a0_0, .slice A0_1 l0_1.length c0_1, .int .i64 a0_2, .int .i64 a0_3, .slice A0_4 l0_4.length c0_4, .slice A0_5 l0_5.length c0_5] 26 ?_; intro gb103 hg w3 hbox hb; have n0_ := Aside0.mk (below_step hb_ hb); have n1_ := Aside0.mk (hbox); have n2_ := Aside0.mk ((by rw [hg]; exact (below_size hb_) : w.heap.size ≤ gb103)); have n3_ := Aside0.mk ((by rw [hg]; exact (below_size hb_) : w.heap.size ≤ gb103)); clear HB; have HB := n0_; have BK103 := n1_; have GW103 := n2_; have GE103 := n3_; clear n0_ n1_ n2_ n3_; clear hb hbox hg; have hcz4_0 := bc0 BK103; have hcz4_1 := bc1 BK103; have hcz4_2 := bc2 BK103; have hcz4_3 := bc3 BK103; have hcz4_4 := bc4 BK103; have hcz4_5 := bc5 BK103; have hfz4_0 := blk_frozen BK103.out 0; have hfz4_1 := blk_frozen BK103.out 1; have hfz4_2 := blk_frozen BK103.out 2; have hfz4_3 := blk_frozen BK103.out 3; have hfz4_4 := blk_frozen BK103.out 4; have hfz4_5 := blk_frozen BK103.out 5))
  repeat (go_quiet (first | ((with_reducible refine gate_dst (N := 1) rfl ?_); refine bx_ 1 #[.int .i64 a0_0, .slice A0_1 l0_1.length c0_1, .int .i64 a0_2, .int .i64 a0_3, .slice A0_4 l0_4.length c0_4, .slice A0_5 l0_5.length c0_5] 26 ?_; intro gb103 hg w3 hbox hb; have n0_ := Aside0.mk (below_step hb_ hb); have n1_ := Aside0.mk (hbox); have n2_ := Aside0.mk ((by rw [hg]; exact (below_size hb_) : w.heap.size ≤ gb103)); have n3_ := Aside0.mk ((by rw [hg]; exact (below_size hb_) : w.heap.size ≤ gb103)); clear HB; have HB := n0_; have BK103 := n1_; have GW103 := n2_; have GE103 := n3_; clear n0_ n1_ n2_ n3_; clear hb hbox hg; have hcz4_0 := bc0 BK103; have hcz4_1 := bc1 BK103; have hcz4_2 := bc2 BK103; have hcz4_3 := bc3 BK103; have hcz4_4 := bc4 BK103; have hcz4_5 := bc5 BK103; have hfz4_0 := blk_frozen BK103.out 0; have hfz4_1 := blk_frozen BK103.out 1; have hfz4_2 := blk_frozen BK103.out 2; have hfz4_3 := blk_frozen BK103.out 3; have hfz4_4 := blk_frozen BK103.out 4; have hfz4_5 := blk_frozen BK103.out 5)); try go_wp2_with (first | ((with_reducible refine gate_dst (N := 1) rfl ?_); refine bx_ 1 #[.int .i64 a0_0, .slice A0_1 l0_1.length c0_1, .int .i64 a0_2, .int .i64 a0_3, .slice A0_4 l0_4.length c0_4, .slice A0_5 l0_5.length c0_5] 26 ?_; intro gb103 hg w3 hbox hb; have n0_ := Aside0.mk (below_step hb_ hb); have n1_ := Aside0.mk (hbox); have n2_ := Aside0.mk ((by rw [hg]; exact (below_size hb_) : w.heap.size ≤ gb103)); have n3_ := Aside0.mk ((by rw [hg]; exact (below_size hb_) : w.heap.size ≤ gb103)); clear HB; have HB := n0_; have BK103 := n1_; have GW103 := n2_; have GE103 := n3_; clear n0_ n1_ n2_ n3_; clear hb hbox hg; have hcz4_0 := bc0 BK103; have hcz4_1 := bc1 BK103; have hcz4_2 := bc2 BK103; have hcz4_3 := bc3 BK103; have hcz4_4 := bc4 BK103; have hcz4_5 := bc5 BK103; have hfz4_0 := blk_frozen BK103.out 0; have hfz4_1 := blk_frozen BK103.out 1; have hfz4_2 := blk_frozen BK103.out 2; have hfz4_3 := blk_frozen BK103.out 3; have hfz4_4 := blk_frozen BK103.out 4; have hfz4_5 := blk_frozen BK103.out 5)))
  go_loopg [3] k (fun kq v3 w' => ∃ (x3_1 : Int), v3 = .int .i64 x3_1 ∧ Aside0 (hopmeshref31_table.l0 kq x3_1 a0_0 l0_1 a0_2 a0_3 l0_4 l0_5 = some r) ∧ Aside0 (kq ≤ k) ∧ Aside0 (w'.heap[gb103]? = some (.cells #[.int .i64 a0_0, (.slice A0_1 l0_1.length c0_1), .int .i64 a0_2, .int .i64 a0_3, (.slice A0_4 l0_4.length c0_4), (.slice A0_5 l0_5.length c0_5)] 26 (0, 0))) ∧ Aside0 (Below w.heap.size w w'))
  case atStart => exact ⟨(0), rl_, H', ⟨Nat.le_refl _⟩, ⟨bj_ BK103⟩, ⟨hb_⟩⟩
  case round =>
   clear H'
   try clear c2; try clear c2b0; try clear c2b1; try clear p2; try clear hcz4_0; try clear hcz4_1; try clear hcz4_2; try clear hcz4_3; try clear hcz4_4; try clear hcz4_5; try clear hfz4_0; try clear hfz4_1; try clear hfz4_2; try clear hfz4_3; try clear hfz4_4; try clear hfz4_5
   (repeat clear BK103); (repeat clear HB)
   obtain ⟨x3_1, rfl, HA, HK1, BK103, HB⟩ := hrel
   cases gk with
   | zero => exact absurd HA.out (by simp [hopmeshref31_table.l0])
   | succ k1 =>
    have H := HA.out
    clear HA
    simp only [hopmeshref31_table.l0] at H
    by_cases c5 : x3_1 < a0_0
    ·
     rw [if_pos c5] at H
     have c5b0 : decide (x3_1 < a0_0) = true := decide_eq_true c5
     clear c5
     by_cases c6 : 0 ≤ x3_1
     ·
      rw [if_pos c6] at H
      have c6b0 : decide (0 ≤ x3_1) = true := decide_eq_true c6
      clear c6
      by_cases c7 : x3_1 < (l0_1.length : Int)
      ·
       rw [if_pos c7] at H
       have c7b0 : decide (x3_1 < (l0_1.length : Int)) = true := decide_eq_true c7
       clear c7
       by_cases c8 : ((rd_L1 l0_1 x3_1).length : Int) = a0_0
       ·
        rw [if_pos c8] at H
        have c8b0 : (((rd_L1 l0_1 x3_1).length : Int) == a0_0) = true := beq_iff_eq.mpr c8
        have c8b1 : (((rd_L1 l0_1 x3_1).length : Int) != a0_0) = false := bne_eq_false_iff_eq.mpr c8
        clear c8
        have H' := Aside0.mk H
        clear H
        have hcz9_0 := bc0 BK103
        have hcz9_1 := bc1 BK103
        have hcz9_2 := bc2 BK103
        have hcz9_3 := bc3 BK103
        have hcz9_4 := bc4 BK103
        have hcz9_5 := bc5 BK103
        have hfz9_0 := blk_frozen BK103.out 0
        have hfz9_1 := blk_frozen BK103.out 1
        have hfz9_2 := blk_frozen BK103.out 2
        have hfz9_3 := blk_frozen BK103.out 3
        have hfz9_4 := blk_frozen BK103.out 4
        have hfz9_5 := blk_frozen BK103.out 5
        have p104 : 0 ≤ (x3_1 : Int) := of_decide_eq_true (by assumption)
        have q104 : x3_1 < (l0_1.length : Int) := of_decide_eq_true (by assumption)
        obtain ⟨ad104, A104_0, c104_0, e104, hx104_0, hl104_0, hi104_0⟩ := at_L1 HR0_1.out x3_1 p104 q104
        cases e104
        replace hx104_0 := (HB.out.cell (World.block_lt_of_cell? w _ hx104_0)).trans hx104_0
        have HR104_0 := Aside0.mk hi104_0
        have HC104_0 := Aside0.mk hl104_0
        clear hi104_0 hl104_0
        replace p104 := eq_true p104
        replace q104 := eq_true q104
        go_wp2
        repeat (go_quiet (fail); try go_wp2)
        go_roundg k1
        case measure => have := HK1.out; omega
        case rel => exact ⟨(wrap64 (x3_1 + 1)), rl_, H', ⟨by have := HK1.out; omega⟩, ⟨bj_ BK103⟩, ⟨hb_⟩⟩
       ·
        rw [if_neg c8] at H
        have c8b0 : (((rd_L1 l0_1 x3_1).length : Int) == a0_0) = false := beq_eq_false_iff_ne.mpr c8
        have c8b1 : (((rd_L1 l0_1 x3_1).length : Int) != a0_0) = true := bne_iff_ne.mpr c8
        obtain rfl := Option.some.inj H
        have hcz10_0 := bc0 BK103
        have hcz10_1 := bc1 BK103
        have hcz10_2 := bc2 BK103
        have hcz10_3 := bc3 BK103
        have hcz10_4 := bc4 BK103
        have hcz10_5 := bc5 BK103
        have hfz10_0 := blk_frozen BK103.out 0
        have hfz10_1 := blk_frozen BK103.out 1
        have hfz10_2 := blk_frozen BK103.out 2
        have hfz10_3 := blk_frozen BK103.out 3
        have hfz10_4 := blk_frozen BK103.out 4
        have hfz10_5 := blk_frozen BK103.out 5
        have p104 : 0 ≤ (x3_1 : Int) := of_decide_eq_true (by assumption)
        have q104 : x3_1 < (l0_1.length : Int) := of_decide_eq_true (by assumption)
        obtain ⟨ad104, A104_0, c104_0, e104, hx104_0, hl104_0, hi104_0⟩ := at_L1 HR0_1.out x3_1 p104 q104
        cases e104
        replace hx104_0 := (HB.out.cell (World.block_lt_of_cell? w _ hx104_0)).trans hx104_0
        have HR104_0 := Aside0.mk hi104_0
        have HC104_0 := Aside0.mk hl104_0
        clear hi104_0 hl104_0
        replace p104 := eq_true p104
        replace q104 := eq_true q104
        go_wp2
        repeat (go_quiet (fail); try go_wp2)
        go_ret
        exact ⟨er_, hb_⟩
      ·
       rw [if_neg c7] at H
       exact absurd H (by simp)
     ·
      rw [if_neg c6] at H
      exact absurd H (by simp)
    ·
     rw [if_neg c5] at H
     have c5b0 : decide (x3_1 < a0_0) = false := decide_eq_false c5
     clear c5
     have H' := Aside0.mk H
     clear H
     have hcz11_0 := bc0 BK103
     have hcz11_1 := bc1 BK103
     have hcz11_2 := bc2 BK103
     have hcz11_3 := bc3 BK103
     have hcz11_4 := bc4 BK103
     have hcz11_5 := bc5 BK103
     have hfz11_0 := blk_frozen BK103.out 0
     have hfz11_1 := blk_frozen BK103.out 1
     have hfz11_2 := blk_frozen BK103.out 2
     have hfz11_3 := blk_frozen BK103.out 3
     have hfz11_4 := blk_frozen BK103.out 4
     have hfz11_5 := blk_frozen BK103.out 5
     go_wp2
     repeat (go_quiet (fail); try go_wp2)
     go_loopg [4] k1 (fun kq v4 w' => ∃ (x4_2 : Int), v4 = .int .i64 x4_2 ∧ Aside0 (hopmeshref31_table.l1 kq x4_2 a0_0 l0_1 a0_2 a0_3 l0_4 l0_5 = some r) ∧ Aside0 (kq ≤ k1) ∧ Aside0 (w'.heap[gb103]? = some (.cells #[.int .i64 a0_0, (.slice A0_1 l0_1.length c0_1), .int .i64 a0_2, .int .i64 a0_3, (.slice A0_4 l0_4.length c0_4), (.slice A0_5 l0_5.length c0_5)] 26 (0, 0))) ∧ Aside0 (Below w.heap.size w w'))
     case atStart => exact ⟨(0), rl_, H', ⟨Nat.le_refl _⟩, ⟨bj_ BK103⟩, ⟨hb_⟩⟩
     case round =>
      clear H'
      try clear c1; try clear p1; try clear q1; try clear hx1; try clear c2; try clear c2b0; try clear c2b1; try clear p2; try clear c5; try clear c5b0; try clear c6; try clear c6b0; try clear p6; try clear c7; try clear c7b0; try clear c8; try clear c8b0; try clear c8b1; try clear c10; try clear p10; try clear q10; try clear hx10; try clear hcz10_0; try clear hcz10_1; try clear hcz10_2; try clear hcz10_3; try clear hcz10_4; try clear hcz10_5; try clear hcz11_0; try clear hcz11_1; try clear hcz11_2; try clear hcz11_3; try clear hcz11_4; try clear hcz11_5; try clear hcz4_0; try clear hcz4_1; try clear hcz4_2; try clear hcz4_3; try clear hcz4_4; try clear hcz4_5; try clear hcz9_0; try clear hcz9_1; try clear hcz9_2; try clear hcz9_3; try clear hcz9_4; try clear hcz9_5; try clear hfz10_0; try clear hfz10_1; try clear hfz10_2; try clear hfz10_3; try clear hfz10_4; try clear hfz10_5; try clear hfz11_0; try clear hfz11_1; try clear hfz11_2; try clear hfz11_3; try clear hfz11_4; try clear hfz11_5; try clear hfz4_0; try clear hfz4_1; try clear hfz4_2; try clear hfz4_3; try clear hfz4_4; try clear hfz4_5; try clear hfz9_0; try clear hfz9_1; try clear hfz9_2; try clear hfz9_3; try clear hfz9_4; try clear hfz9_5; try clear hx104_0; try clear p104; try clear p2; try clear q104
      (repeat clear BK103); (repeat clear HB)
      obtain ⟨x4_2, rfl, HA, HK2, BK103, HB⟩ := hrel
      cases gk with
      | zero => exact absurd HA.out (by simp [hopmeshref31_table.l1])
      | succ k2 =>
       have H := HA.out
       clear HA
       simp only [hopmeshref31_table.l1] at H
       by_cases c12 : x4_2 < a0_0
       ·
        rw [if_pos c12] at H
        have c12b0 : decide (x4_2 < a0_0) = true := decide_eq_true c12
        clear c12
        have H' := Aside0.mk H
        clear H
        have hcz13_0 := bc0 BK103
        have hcz13_1 := bc1 BK103
        have hcz13_2 := bc2 BK103
        have hcz13_3 := bc3 BK103
        have hcz13_4 := bc4 BK103
        have hcz13_5 := bc5 BK103
        have hfz13_0 := blk_frozen BK103.out 0
        have hfz13_1 := blk_frozen BK103.out 1
        have hfz13_2 := blk_frozen BK103.out 2
        have hfz13_3 := blk_frozen BK103.out 3
        have hfz13_4 := blk_frozen BK103.out 4
        have hfz13_5 := blk_frozen BK103.out 5
        go_wp2
        repeat (go_quiet (fail); try go_wp2)
        go_loopg [5] k2 (fun kq v5 w' => ∃ (x5_3 : Int), v5 = .int .i64 x5_3 ∧ Aside0 (hopmeshref31_table.l2 kq x4_2 x5_3 a0_0 l0_1 a0_2 a0_3 l0_4 l0_5 = some r) ∧ Aside0 (kq ≤ k2) ∧ Aside0 (w'.heap[gb103]? = some (.cells #[.int .i64 a0_0, (.slice A0_1 l0_1.length c0_1), .int .i64 a0_2, .int .i64 a0_3, (.slice A0_4 l0_4.length c0_4), (.slice A0_5 l0_5.length c0_5)] 26 (0, 0))) ∧ Aside0 (Below w.heap.size w w'))
        case atStart => exact ⟨(0), rl_, H', ⟨Nat.le_refl _⟩, ⟨bj_ BK103⟩, ⟨hb_⟩⟩
        case round =>
         clear H'
         try clear c1; try clear p1; try clear q1; try clear hx1; try clear c2; try clear c2b0; try clear c2b1; try clear p2; try clear c5; try clear c5b0; try clear c6; try clear c6b0; try clear p6; try clear c7; try clear c7b0; try clear c8; try clear c8b0; try clear c8b1; try clear c10; try clear p10; try clear q10; try clear hx10; try clear c12; try clear c12b0; try clear hcz10_0; try clear hcz10_1; try clear hcz10_2; try clear hcz10_3; try clear hcz10_4; try clear hcz10_5; try clear hcz11_0; try clear hcz11_1; try clear hcz11_2; try clear hcz11_3; try clear hcz11_4; try clear hcz11_5; try clear hcz13_0; try clear hcz13_1; try clear hcz13_2; try clear hcz13_3; try clear hcz13_4; try clear hcz13_5; try clear hcz4_0; try clear hcz4_1; try clear hcz4_2; try clear hcz4_3; try clear hcz4_4; try clear hcz4_5; try clear hcz9_0; try clear hcz9_1; try clear hcz9_2; try clear hcz9_3; try clear hcz9_4; try clear hcz9_5; try clear hfz10_0; try clear hfz10_1; try clear hfz10_2; try clear hfz10_3; try clear hfz10_4; try clear hfz10_5; try clear hfz11_0; try clear hfz11_1; try clear hfz11_2; try clear hfz11_3; try clear hfz11_4; try clear hfz11_5; try clear hfz13_0; try clear hfz13_1; try clear hfz13_2; try clear hfz13_3; try clear hfz13_4; try clear hfz13_5; try clear hfz4_0; try clear hfz4_1; try clear hfz4_2; try clear hfz4_3; try clear hfz4_4; try clear hfz4_5; try clear hfz9_0; try clear hfz9_1; try clear hfz9_2; try clear hfz9_3; try clear hfz9_4; try clear hfz9_5; try clear hx104_0; try clear p1; try clear p10; try clear p104; try clear p2; try clear p6; try clear q1; try clear q10; try clear q104
         (repeat clear BK103); (repeat clear HB)
         obtain ⟨x5_3, rfl, HA, HK3, BK103, HB⟩ := hrel
         cases gk with
         | zero => exact absurd HA.out (by simp [hopmeshref31_table.l2])
         | succ k3 =>
          have H := HA.out
          clear HA
          simp only [hopmeshref31_table.l2] at H
          by_cases c14 : x5_3 < a0_0
          ·
           rw [if_pos c14] at H
           have c14b0 : decide (x5_3 < a0_0) = true := decide_eq_true c14
           clear c14
           by_cases c15 : 0 ≤ x4_2
           ·
            rw [if_pos c15] at H
            have c15b0 : decide (0 ≤ x4_2) = true := decide_eq_true c15
            clear c15
            by_cases c16 : x4_2 < (l0_1.length : Int)
            ·
             rw [if_pos c16] at H
             have c16b0 : decide (x4_2 < (l0_1.length : Int)) = true := decide_eq_true c16
             clear c16
             by_cases c17 : 0 ≤ x5_3
             ·
              rw [if_pos c17] at H
              have c17b0 : decide (0 ≤ x5_3) = true := decide_eq_true c17
              clear c17
              by_cases c18 : x5_3 < ((rd_L1 l0_1 x4_2).length : Int)
              ·
               rw [if_pos c18] at H
               have c18b0 : decide (x5_3 < ((rd_L1 l0_1 x4_2).length : Int)) = true := decide_eq_true c18
               clear c18
               replace H := Option.bind_eq_some_iff.mp H
               obtain ⟨t107, A190, H⟩ := H
               replace H : (if t107 = true then (hopmeshref31_table.l2 k3 x4_2 (wrap64 (x5_3 + 1)) a0_0 l0_1 a0_2 a0_3 l0_4 l0_5) else (some 2)) = some r := H
               have A19 := Aside0.mk A190
               clear A190
               by_cases c20 : t107 = true
               ·
                subst c20
                have H1 : (hopmeshref31_table.l2 k3 x4_2 (wrap64 (x5_3 + 1)) a0_0 l0_1 a0_2 a0_3 l0_4 l0_5) = some r := by rw [if_pos rfl] at H; exact H
                clear H
                have H := H1
                clear H1
                have H' := Aside0.mk H
                clear H
                have hcz21_0 := bc0 BK103
                have hcz21_1 := bc1 BK103
                have hcz21_2 := bc2 BK103
                have hcz21_3 := bc3 BK103
                have hcz21_4 := bc4 BK103
                have hcz21_5 := bc5 BK103
                have hfz21_0 := blk_frozen BK103.out 0
                have hfz21_1 := blk_frozen BK103.out 1
                have hfz21_2 := blk_frozen BK103.out 2
                have hfz21_3 := blk_frozen BK103.out 3
                have hfz21_4 := blk_frozen BK103.out 4
                have hfz21_5 := blk_frozen BK103.out 5
                have p105 : 0 ≤ (x4_2 : Int) := of_decide_eq_true (by assumption)
                have q105 : x4_2 < (l0_1.length : Int) := of_decide_eq_true (by assumption)
                obtain ⟨ad105, A105_0, c105_0, e105, hx105_0, hl105_0, hi105_0⟩ := at_L1 HR0_1.out x4_2 p105 q105
                cases e105
                replace hx105_0 := (HB.out.cell (World.block_lt_of_cell? w _ hx105_0)).trans hx105_0
                have HR105_0 := Aside0.mk hi105_0
                have HC105_0 := Aside0.mk hl105_0
                clear hi105_0 hl105_0
                replace p105 := eq_true p105
                replace q105 := eq_true q105
                have p106 : 0 ≤ (x5_3 : Int) := of_decide_eq_true (by assumption)
                have q106 : x5_3 < ((rd_L1 l0_1 x4_2).length : Int) := of_decide_eq_true (by assumption)
                obtain ⟨ad106, e106, hx106_0⟩ := Kd.at_int HR105_0.out x5_3 p106 q106
                cases e106
                replace hx106_0 := (HB.out.cell (World.block_lt_of_cell? w _ hx106_0)).trans hx106_0
                replace p106 := eq_true p106
                replace q106 := eq_true q106
                go_wp2_with (first | (go_at_call 61; (with_reducible refine (hopmeshref31_in.calls (rd (rd_L1 l0_1 x4_2) x5_3) 0 68719476736 true _ A19.out).mono ?_); rintro e w' ⟨rfl, ⟨nd, rfl⟩⟩; (try first | exact ⟨rfl, _, World.drewN_drewN _ _ _⟩ | exact ⟨rfl, _, Eq.trans (World.drewN_drewN _ _ _) (congrArg (World.drewN _) (Nat.add_assoc _ _ _))⟩)))
                repeat (go_quiet (first | (go_at_call 61; (with_reducible refine (hopmeshref31_in.calls (rd (rd_L1 l0_1 x4_2) x5_3) 0 68719476736 true _ A19.out).mono ?_); rintro e w' ⟨rfl, ⟨nd, rfl⟩⟩; (try first | exact ⟨rfl, _, World.drewN_drewN _ _ _⟩ | exact ⟨rfl, _, Eq.trans (World.drewN_drewN _ _ _) (congrArg (World.drewN _) (Nat.add_assoc _ _ _))⟩))); try go_wp2_with (first | (go_at_call 61; (with_reducible refine (hopmeshref31_in.calls (rd (rd_L1 l0_1 x4_2) x5_3) 0 68719476736 true _ A19.out).mono ?_); rintro e w' ⟨rfl, ⟨nd, rfl⟩⟩; (try first | exact ⟨rfl, _, World.drewN_drewN _ _ _⟩ | exact ⟨rfl, _, Eq.trans (World.drewN_drewN _ _ _) (congrArg (World.drewN _) (Nat.add_assoc _ _ _))⟩))))
                go_roundg k3
                case measure => have := HK1.out; have := HK2.out; have := HK3.out; omega
                case rel => exact ⟨(wrap64 (x5_3 + 1)), rl_, H', ⟨by have := HK1.out; have := HK2.out; have := HK3.out; omega⟩, ⟨bj_ BK103⟩, ⟨hb_⟩⟩
               ·
                replace c20 := Bool.eq_false_iff.mpr c20
                subst c20
                have H1 : (some 2) = some r := by rw [if_neg (show ¬ (false = true) by decide)] at H; exact H
                clear H
                have H := H1
                clear H1
                obtain rfl := Option.some.inj H
                have hcz22_0 := bc0 BK103
                have hcz22_1 := bc1 BK103
                have hcz22_2 := bc2 BK103
                have hcz22_3 := bc3 BK103
                have hcz22_4 := bc4 BK103
                have hcz22_5 := bc5 BK103
                have hfz22_0 := blk_frozen BK103.out 0
                have hfz22_1 := blk_frozen BK103.out 1
                have hfz22_2 := blk_frozen BK103.out 2
                have hfz22_3 := blk_frozen BK103.out 3
                have hfz22_4 := blk_frozen BK103.out 4
                have hfz22_5 := blk_frozen BK103.out 5
                have p105 : 0 ≤ (x4_2 : Int) := of_decide_eq_true (by assumption)
                have q105 : x4_2 < (l0_1.length : Int) := of_decide_eq_true (by assumption)
                obtain ⟨ad105, A105_0, c105_0, e105, hx105_0, hl105_0, hi105_0⟩ := at_L1 HR0_1.out x4_2 p105 q105
                cases e105
                replace hx105_0 := (HB.out.cell (World.block_lt_of_cell? w _ hx105_0)).trans hx105_0
                have HR105_0 := Aside0.mk hi105_0
                have HC105_0 := Aside0.mk hl105_0
                clear hi105_0 hl105_0
                replace p105 := eq_true p105
                replace q105 := eq_true q105
                have p106 : 0 ≤ (x5_3 : Int) := of_decide_eq_true (by assumption)
                have q106 : x5_3 < ((rd_L1 l0_1 x4_2).length : Int) := of_decide_eq_true (by assumption)
                obtain ⟨ad106, e106, hx106_0⟩ := Kd.at_int HR105_0.out x5_3 p106 q106
                cases e106
                replace hx106_0 := (HB.out.cell (World.block_lt_of_cell? w _ hx106_0)).trans hx106_0
                replace p106 := eq_true p106
                replace q106 := eq_true q106
                go_wp2_with (first | (go_at_call 61; (with_reducible refine (hopmeshref31_in.calls (rd (rd_L1 l0_1 x4_2) x5_3) 0 68719476736 false _ A19.out).mono ?_); rintro e w' ⟨rfl, ⟨nd, rfl⟩⟩; (try first | exact ⟨rfl, _, World.drewN_drewN _ _ _⟩ | exact ⟨rfl, _, Eq.trans (World.drewN_drewN _ _ _) (congrArg (World.drewN _) (Nat.add_assoc _ _ _))⟩)))
                repeat (go_quiet (first | (go_at_call 61; (with_reducible refine (hopmeshref31_in.calls (rd (rd_L1 l0_1 x4_2) x5_3) 0 68719476736 false _ A19.out).mono ?_); rintro e w' ⟨rfl, ⟨nd, rfl⟩⟩; (try first | exact ⟨rfl, _, World.drewN_drewN _ _ _⟩ | exact ⟨rfl, _, Eq.trans (World.drewN_drewN _ _ _) (congrArg (World.drewN _) (Nat.add_assoc _ _ _))⟩))); try go_wp2_with (first | (go_at_call 61; (with_reducible refine (hopmeshref31_in.calls (rd (rd_L1 l0_1 x4_2) x5_3) 0 68719476736 false _ A19.out).mono ?_); rintro e w' ⟨rfl, ⟨nd, rfl⟩⟩; (try first | exact ⟨rfl, _, World.drewN_drewN _ _ _⟩ | exact ⟨rfl, _, Eq.trans (World.drewN_drewN _ _ _) (congrArg (World.drewN _) (Nat.add_assoc _ _ _))⟩))))
                go_ret
                exact ⟨er_, hb_⟩
              ·
               rw [if_neg c18] at H
               exact absurd H (by simp)
             ·
              rw [if_neg c17] at H
              exact absurd H (by simp)
            ·
             rw [if_neg c16] at H
             exact absurd H (by simp)
           ·
            rw [if_neg c15] at H
            exact absurd H (by simp)
          ·
           rw [if_neg c14] at H
           have c14b0 : decide (x5_3 < a0_0) = false := decide_eq_false c14
           clear c14
           have H' := Aside0.mk H
           clear H
           have hcz23_0 := bc0 BK103
           have hcz23_1 := bc1 BK103
           have hcz23_2 := bc2 BK103
           have hcz23_3 := bc3 BK103
           have hcz23_4 := bc4 BK103
           have hcz23_5 := bc5 BK103
           have hfz23_0 := blk_frozen BK103.out 0
           have hfz23_1 := blk_frozen BK103.out 1
           have hfz23_2 := blk_frozen BK103.out 2
           have hfz23_3 := blk_frozen BK103.out 3
           have hfz23_4 := blk_frozen BK103.out 4
           have hfz23_5 := blk_frozen BK103.out 5
           go_wp2
           repeat (go_quiet (fail); try go_wp2)
           go_roundg k3
           case measure => have := HK1.out; have := HK2.out; have := HK3.out; omega
           case rel => exact ⟨(wrap64 (x4_2 + 1)), rl_, H', ⟨by have := HK1.out; have := HK2.out; have := HK3.out; omega⟩, ⟨bj_ BK103⟩, ⟨hb_⟩⟩
       ·
        rw [if_neg c12] at H
        have c12b0 : decide (x4_2 < a0_0) = false := decide_eq_false c12
        clear c12
        obtain rfl := Option.some.inj H
        have hcz24_0 := bc0 BK103
        have hcz24_1 := bc1 BK103
        have hcz24_2 := bc2 BK103
        have hcz24_3 := bc3 BK103
        have hcz24_4 := bc4 BK103
        have hcz24_5 := bc5 BK103
        have hfz24_0 := blk_frozen BK103.out 0
        have hfz24_1 := blk_frozen BK103.out 1
        have hfz24_2 := blk_frozen BK103.out 2
        have hfz24_3 := blk_frozen BK103.out 3
        have hfz24_4 := blk_frozen BK103.out 4
        have hfz24_5 := blk_frozen BK103.out 5
        go_wp2
        repeat (go_quiet (fail); try go_wp2)
        go_ret
        exact ⟨er_, hb_⟩
 ·
  rw [if_neg c2] at H
  have c2b0 : ((l0_1.length : Int) == a0_0) = false := beq_eq_false_iff_ne.mpr c2
  have c2b1 : ((l0_1.length : Int) != a0_0) = true := bne_iff_ne.mpr c2
  obtain rfl := Option.some.inj H
  go_enter Try.func62, Try.ntmps62
  go_wp2_with (first | ((with_reducible refine gate_dst (N := 1) rfl ?_); refine bx_ 1 #[.int .i64 a0_0, .slice A0_1 l0_1.length c0_1, .int .i64 a0_2, .int .i64 a0_3, .slice A0_4 l0_4.length c0_4, .slice A0_5 l0_5.length c0_5] 26 ?_; intro gb103 hg w25 hbox hb; have n0_ := Aside0.mk (below_step hb_ hb); have n1_ := Aside0.mk (hbox); have n2_ := Aside0.mk ((by rw [hg]; exact (below_size hb_) : w.heap.size ≤ gb103)); have n3_ := Aside0.mk ((by rw [hg]; exact (below_size hb_) : w.heap.size ≤ gb103)); clear HB; have HB := n0_; have BK103 := n1_; have GW103 := n2_; have GE103 := n3_; clear n0_ n1_ n2_ n3_; clear hb hbox hg; have hcz26_0 := bc0 BK103; have hcz26_1 := bc1 BK103; have hcz26_2 := bc2 BK103; have hcz26_3 := bc3 BK103; have hcz26_4 := bc4 BK103; have hcz26_5 := bc5 BK103; have hfz26_0 := blk_frozen BK103.out 0; have hfz26_1 := blk_frozen BK103.out 1; have hfz26_2 := blk_frozen BK103.out 2; have hfz26_3 := blk_frozen BK103.out 3; have hfz26_4 := blk_frozen BK103.out 4; have hfz26_5 := blk_frozen BK103.out 5))
  repeat (go_quiet (first | ((with_reducible refine gate_dst (N := 1) rfl ?_); refine bx_ 1 #[.int .i64 a0_0, .slice A0_1 l0_1.length c0_1, .int .i64 a0_2, .int .i64 a0_3, .slice A0_4 l0_4.length c0_4, .slice A0_5 l0_5.length c0_5] 26 ?_; intro gb103 hg w25 hbox hb; have n0_ := Aside0.mk (below_step hb_ hb); have n1_ := Aside0.mk (hbox); have n2_ := Aside0.mk ((by rw [hg]; exact (below_size hb_) : w.heap.size ≤ gb103)); have n3_ := Aside0.mk ((by rw [hg]; exact (below_size hb_) : w.heap.size ≤ gb103)); clear HB; have HB := n0_; have BK103 := n1_; have GW103 := n2_; have GE103 := n3_; clear n0_ n1_ n2_ n3_; clear hb hbox hg; have hcz26_0 := bc0 BK103; have hcz26_1 := bc1 BK103; have hcz26_2 := bc2 BK103; have hcz26_3 := bc3 BK103; have hcz26_4 := bc4 BK103; have hcz26_5 := bc5 BK103; have hfz26_0 := blk_frozen BK103.out 0; have hfz26_1 := blk_frozen BK103.out 1; have hfz26_2 := blk_frozen BK103.out 2; have hfz26_3 := blk_frozen BK103.out 3; have hfz26_4 := blk_frozen BK103.out 4; have hfz26_5 := blk_frozen BK103.out 5)); try go_wp2_with (first | ((with_reducible refine gate_dst (N := 1) rfl ?_); refine bx_ 1 #[.int .i64 a0_0, .slice A0_1 l0_1.length c0_1, .int .i64 a0_2, .int .i64 a0_3, .slice A0_4 l0_4.length c0_4, .slice A0_5 l0_5.length c0_5] 26 ?_; intro gb103 hg w25 hbox hb; have n0_ := Aside0.mk (below_step hb_ hb); have n1_ := Aside0.mk (hbox); have n2_ := Aside0.mk ((by rw [hg]; exact (below_size hb_) : w.heap.size ≤ gb103)); have n3_ := Aside0.mk ((by rw [hg]; exact (below_size hb_) : w.heap.size ≤ gb103)); clear HB; have HB := n0_; have BK103 := n1_; have GW103 := n2_; have GE103 := n3_; clear n0_ n1_ n2_ n3_; clear hb hbox hg; have hcz26_0 := bc0 BK103; have hcz26_1 := bc1 BK103; have hcz26_2 := bc2 BK103; have hcz26_3 := bc3 BK103; have hcz26_4 := bc4 BK103; have hcz26_5 := bc5 BK103; have hfz26_0 := blk_frozen BK103.out 0; have hfz26_1 := blk_frozen BK103.out 1; have hfz26_2 := blk_frozen BK103.out 2; have hfz26_3 := blk_frozen BK103.out 3; have hfz26_4 := blk_frozen BK103.out 4; have hfz26_5 := blk_frozen BK103.out 5)))
  go_ret
  exact ⟨er_, hb_⟩

end Go.Proofs.Ytibgcekekmphoaa.P34
