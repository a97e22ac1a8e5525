-- Written by a program of this session (wip/tools) over the kit's print; Lean checks it.
import Derived.Test.YtibgcekekmphoaaP340
import Derived.Test.YtibgcekekmphoaaP34A
namespace Go.Proofs.Ytibgcekekmphoaa.P34
open Go.RowKit Go.Proofs.YtibgcekekmphoaaW.PrintWords Go.Proofs.YtibgcekekmphoaaW.PrintLast Go.Proofs.YtibgcekekmphoaaW.PrintMore
attribute [local go_sem] max2_int min2_int max_two min_two max_three min_three max_four min_four   -- for this text's walks alone
set_option linter.unusedVariables false
set_option linter.unusedSimpArgs false

/-! ### hopmeshref31_Heard: function 76 -/
def hopmeshref31_Heard.f (a0_0 : Int) (l0_1 : List (List Int)) (a0_2 : Int) (a0_3 : Int) (l0_4 : List (S44)) (l0_5 : List Int) (a1 : Int) (a2 : Int) : Option (Bool) := some (decide ((wrap64 (a1 * 1000)) ≥ (wrap64 (a0_3 * (wrap64 (a0_2 + a2))))))
set_option maxHeartbeats 8000000 in
set_option maxRecDepth 100000 in
theorem hopmeshref31_Heard.calls (a0_0 : Int) (A0_1 : Option Addr) (c0_1 : Nat) (l0_1 : List (List Int)) (a0_2 : Int) (a0_3 : Int) (A0_4 : Option Addr) (c0_4 : Nat) (l0_4 : List (S44)) (A0_5 : Option Addr) (c0_5 : Nat) (l0_5 : List Int) (a1 : Int) (a2 : Int) (r : Bool) (w : World) (hr0_1 : Kd.C (Kd.slice 3 (Kd.int .i64)) w A0_1 l0_1.length l0_1) (hc0_1 : l0_1.length ≤ c0_1) (hr0_4 : Kd.C k44 w A0_4 l0_4.length l0_4) (hc0_4 : l0_4.length ≤ c0_4) (hr0_5 : Kd.C (Kd.int .i64) w A0_5 l0_5.length l0_5) (hc0_5 : l0_5.length ≤ c0_5) (h : hopmeshref31_Heard.f a0_0 l0_1 a0_2 a0_3 l0_4 l0_5 a1 a2 = some r) :
  Calls Try.prog 76 #[.agg #[.int .i64 a0_0, .slice A0_1 l0_1.length c0_1, .int .i64 a0_2, .int .i64 a0_3, .slice A0_4 l0_4.length c0_4, .slice A0_5 l0_5.length c0_5], .int .i64 a1, .int .i64 a2] w fun e w' => e = .returned (.bool r) ∧ Below w.heap.size w w' := by
 have hu26 := Try.underlying26
 have HR0_1 := Aside0.mk hr0_1
 have HC0_1 := Aside0.mk hc0_1
 clear hr0_1 hc0_1
 have HR0_4 := Aside0.mk hr0_4
 have HC0_4 := Aside0.mk hc0_4
 clear hr0_4 hc0_4
 have HR0_5 := Aside0.mk hr0_5
 have HC0_5 := Aside0.mk hc0_5
 clear hr0_5 hc0_5
 have HB := Aside0.mk (Below.refl w.heap.size w)
 have H : (some (decide ((wrap64 (a1 * 1000)) ≥ (wrap64 (a0_3 * (wrap64 (a0_2 + a2))))))) = some r := h
 clear h
 obtain rfl := Option.some.inj H
 go_enter Try.func76, Try.ntmps76
 go_wp2_with (first | ((with_reducible refine gate_dst (N := 3) rfl ?_); refine bx_ 3 #[.int .i64 a0_0, .slice A0_1 l0_1.length c0_1, .int .i64 a0_2, .int .i64 a0_3, .slice A0_4 l0_4.length c0_4, .slice A0_5 l0_5.length c0_5] 26 ?_; intro gb250 hg w4 hbox hb; have n0_ := Aside0.mk (below_step hb_ hb); have n1_ := Aside0.mk (hbox); have n2_ := Aside0.mk ((by rw [hg]; exact (below_size hb_) : w.heap.size ≤ gb250)); have n3_ := Aside0.mk ((by rw [hg]; exact (below_size hb_) : w.heap.size ≤ gb250)); clear HB; have HB := n0_; have BK250 := n1_; have GW250 := n2_; have GE250 := n3_; clear n0_ n1_ n2_ n3_; clear hb hbox hg; have hcz5_0 := bc0 BK250; have hcz5_1 := bc1 BK250; have hcz5_2 := bc2 BK250; have hcz5_3 := bc3 BK250; have hcz5_4 := bc4 BK250; have hcz5_5 := bc5 BK250; have hfz5_0 := blk_frozen BK250.out 0; have hfz5_1 := blk_frozen BK250.out 1; have hfz5_2 := blk_frozen BK250.out 2; have hfz5_3 := blk_frozen BK250.out 3; have hfz5_4 := blk_frozen BK250.out 4; have hfz5_5 := blk_frozen BK250.out 5))
 go_ret
 exact ⟨er_, hb_⟩

/-! ### hopmeshref31_Find: function 77 -/
def hopmeshref31_Find.l0 : Nat → Int → Int → Int → Int → List (List Int) → Int → Int → List (S44) → List Int → Option (Int)
 | 0, _, _, _, _, _, _, _, _, _ => none
 | k + 1, x1, x2, x7, x252000, x252001, x252002, x252003, x252004, x252005 => if x7 < (x252004.length : Int) then (if 0 ≤ x7 then (if ((rd_T44 x252004 x7).f0) = x1 then (if ((rd_T44 x252004 x7).f1) = x2 then (some x7) else (hopmeshref31_Find.l0 k x1 x2 (wrap64 (x7 + 1)) x252000 x252001 x252002 x252003 x252004 x252005)) else (hopmeshref31_Find.l0 k x1 x2 (wrap64 (x7 + 1)) x252000 x252001 x252002 x252003 x252004 x252005)) else (none)) else (some (-1))
def hopmeshref31_Find.f (k : Nat) (a0_0 : Int) (l0_1 : List (List Int)) (a0_2 : Int) (a0_3 : Int) (l0_4 : List (S44)) (l0_5 : List Int) (a1 : Int) (a2 : Int) : Option (Int) := hopmeshref31_Find.l0 k a1 a2 0 a0_0 l0_1 a0_2 a0_3 l0_4 l0_5
theorem hopmeshref31_Find.mono_l : ∀ k, (∀ y0 y1 y2 y3 y4 y5 y6 y7 y8, LeO (hopmeshref31_Find.l0 k y0 y1 y2 y3 y4 y5 y6 y7 y8) (hopmeshref31_Find.l0 (k + 1) y0 y1 y2 y3 y4 y5 y6 y7 y8))
 | 0 => fun _ _ _ _ _ _ _ _ _ r h => by simp [hopmeshref31_Find.l0] at h
 | k + 1 => by
  have ih0 := hopmeshref31_Find.mono_l k
  ·
   intro y0 y1 y2 y3 y4 y5 y6 y7 y8
   unfold hopmeshref31_Find.l0
   repeat' first
   | (with_reducible exact ih0 _ _ _ _ _ _ _ _ _)
   | (with_reducible exact LeO.refl _)
   | (with_reducible exact LeO.none _)
   | (with_reducible refine LeO.ite ?_ ?_)
   | (with_reducible refine LeO.bind ?_ (fun _ => ?_))
   | exact ih0 _ _ _ _ _ _ _ _ _
   | exact LeO.none _
   | refine LeO.ite ?_ ?_
   | refine LeO.bind ?_ (fun _ => ?_)
theorem hopmeshref31_Find.mono : ∀ a0 a1 a2 a3 a4 a5 a6 a7 k, LeO (hopmeshref31_Find.f k a0 a1 a2 a3 a4 a5 a6 a7) (hopmeshref31_Find.f (k + 1) a0 a1 a2 a3 a4 a5 a6 a7) := by
 intro a0 a1 a2 a3 a4 a5 a6 a7 k
 have ih0 := hopmeshref31_Find.mono_l k
 unfold hopmeshref31_Find.f
 repeat' first
   | (with_reducible exact ih0 _ _ _ _ _ _ _ _ _)
   | (with_reducible exact LeO.refl _)
   | (with_reducible exact LeO.none _)
   | (with_reducible refine LeO.ite ?_ ?_)
   | (with_reducible refine LeO.bind ?_ (fun _ => ?_))
   | exact ih0 _ _ _ _ _ _ _ _ _
   | exact LeO.none _
   | refine LeO.ite ?_ ?_
   | refine LeO.bind ?_ (fun _ => ?_)
set_option maxHeartbeats 8000000 in
set_option maxRecDepth 100000 in
theorem hopmeshref31_Find.calls (k : Nat) (a0_0 : Int) (A0_1 : Option Addr) (c0_1 : Nat) (l0_1 : List (List Int)) (a0_2 : Int) (a0_3 : Int) (A0_4 : Option Addr) (c0_4 : Nat) (l0_4 : List (S44)) (A0_5 : Option Addr) (c0_5 : Nat) (l0_5 : List Int) (a1 : Int) (a2 : Int) (r : Int) (w : World) (hr0_1 : Kd.C (Kd.slice 3 (Kd.int .i64)) w A0_1 l0_1.length l0_1) (hc0_1 : l0_1.length ≤ c0_1) (hr0_4 : Kd.C k44 w A0_4 l0_4.length l0_4) (hc0_4 : l0_4.length ≤ c0_4) (hr0_5 : Kd.C (Kd.int .i64) w A0_5 l0_5.length l0_5) (hc0_5 : l0_5.length ≤ c0_5) (h : hopmeshref31_Find.f k a0_0 l0_1 a0_2 a0_3 l0_4 l0_5 a1 a2 = some r) :
  Calls Try.prog 77 #[.agg #[.int .i64 a0_0, .slice A0_1 l0_1.length c0_1, .int .i64 a0_2, .int .i64 a0_3, .slice A0_4 l0_4.length c0_4, .slice A0_5 l0_5.length c0_5], .int .i64 a1, .int .i64 a2] w fun e w' => e = .returned (.int .i64 r) ∧ Below w.heap.size w w' := by
 have hu26 := Try.underlying26
 have HR0_1 := Aside0.mk hr0_1
 have HC0_1 := Aside0.mk hc0_1
 clear hr0_1 hc0_1
 have HR0_4 := Aside0.mk hr0_4
 have HC0_4 := Aside0.mk hc0_4
 clear hr0_4 hc0_4
 have HR0_5 := Aside0.mk hr0_5
 have HC0_5 := Aside0.mk hc0_5
 clear hr0_5 hc0_5
 have HB := Aside0.mk (Below.refl w.heap.size w)
 have H : (hopmeshref31_Find.l0 k a1 a2 0 a0_0 l0_1 a0_2 a0_3 l0_4 l0_5) = some r := h
 clear h
 have H' := Aside0.mk H
 clear H
 go_enter Try.func77, Try.ntmps77
 go_wp2_with (first | ((with_reducible refine gate_dst (N := 3) rfl ?_); refine bx_ 3 #[.int .i64 a0_0, .slice A0_1 l0_1.length c0_1, .int .i64 a0_2, .int .i64 a0_3, .slice A0_4 l0_4.length c0_4, .slice A0_5 l0_5.length c0_5] 26 ?_; intro gb251 hg w4 hbox hb; have n0_ := Aside0.mk (below_step hb_ hb); have n1_ := Aside0.mk (hbox); have n2_ := Aside0.mk ((by rw [hg]; exact (below_size hb_) : w.heap.size ≤ gb251)); have n3_ := Aside0.mk ((by rw [hg]; exact (below_size hb_) : w.heap.size ≤ gb251)); clear HB; have HB := n0_; have BK251 := n1_; have GW251 := n2_; have GE251 := n3_; clear n0_ n1_ n2_ n3_; clear hb hbox hg))
 go_loopg [7] k (fun kq v7 w' => ∃ (x7_1 : Int), v7 = .int .i64 x7_1 ∧ Aside0 (hopmeshref31_Find.l0 kq a1 a2 x7_1 a0_0 l0_1 a0_2 a0_3 l0_4 l0_5 = some r) ∧ Aside0 (kq ≤ k) ∧ Aside0 (w'.heap[gb251]? = some (.cells #[.int .i64 a0_0, (.slice A0_1 l0_1.length c0_1), .int .i64 a0_2, .int .i64 a0_3, (.slice A0_4 l0_4.length c0_4), (.slice A0_5 l0_5.length c0_5)] 26 (0, 0))) ∧ Aside0 (Below w.heap.size w w'))
 case atStart => exact ⟨(0), rl_, H', ⟨Nat.le_refl _⟩, ⟨bj_ BK251⟩, ⟨hb_⟩⟩
 case round =>
  clear H'
  try clear p2
  (repeat clear BK251); (repeat clear HB)
  obtain ⟨x7_1, rfl, HA, HK1, BK251, HB⟩ := hrel
  cases gk with
  | zero => exact absurd HA.out (by simp [hopmeshref31_Find.l0])
  | succ k1 =>
   have H := HA.out
   clear HA
   simp only [hopmeshref31_Find.l0] at H
   by_cases c5 : x7_1 < (l0_4.length : Int)
   ·
    rw [if_pos c5] at H
    have c5b0 : decide (x7_1 < (l0_4.length : Int)) = true := decide_eq_true c5
    clear c5
    by_cases c6 : 0 ≤ x7_1
    ·
     rw [if_pos c6] at H
     have c6b0 : decide (0 ≤ x7_1) = true := decide_eq_true c6
     clear c6
     by_cases c7 : ((rd_T44 l0_4 x7_1).f0) = a1
     ·
      rw [if_pos c7] at H
      have c7b0 : (((rd_T44 l0_4 x7_1).f0) == a1) = true := beq_iff_eq.mpr c7
      have c7b1 : (((rd_T44 l0_4 x7_1).f0) != a1) = false := bne_eq_false_iff_eq.mpr c7
      clear c7
      by_cases c8 : ((rd_T44 l0_4 x7_1).f1) = a2
      ·
       rw [if_pos c8] at H
       have c8b0 : (((rd_T44 l0_4 x7_1).f1) == a2) = true := beq_iff_eq.mpr c8
       have c8b1 : (((rd_T44 l0_4 x7_1).f1) != a2) = false := bne_eq_false_iff_eq.mpr c8
       clear c8
       obtain rfl := Option.some.inj H
       have hcz9_0 := bc0 BK251
       have hcz9_1 := bc1 BK251
       have hcz9_2 := bc2 BK251
       have hcz9_3 := bc3 BK251
       have hcz9_4 := bc4 BK251
       have hcz9_5 := bc5 BK251
       have hfz9_0 := blk_frozen BK251.out 0
       have hfz9_1 := blk_frozen BK251.out 1
       have hfz9_2 := blk_frozen BK251.out 2
       have hfz9_3 := blk_frozen BK251.out 3
       have hfz9_4 := blk_frozen BK251.out 4
       have hfz9_5 := blk_frozen BK251.out 5
       have p252 : 0 ≤ (x7_1 : Int) := of_decide_eq_true (by assumption)
       have q252 : x7_1 < (l0_4.length : Int) := of_decide_eq_true (by assumption)
       obtain ⟨ad252, e252, hx252_0, hx252_1, hx252_2⟩ := at_T44 HR0_4.out x7_1 p252 q252
       cases e252
       replace hx252_0 := (HB.out.cell (World.block_lt_of_cell? w _ hx252_0)).trans hx252_0
       replace hx252_1 := (HB.out.cell (World.block_lt_of_cell? w _ hx252_1)).trans hx252_1
       replace hx252_2 := (HB.out.cell (World.block_lt_of_cell? w _ hx252_2)).trans hx252_2
       replace p252 := eq_true p252
       replace q252 := eq_true q252
       have p253 : 0 ≤ (x7_1 : Int) := of_decide_eq_true (by assumption)
       have q253 : x7_1 < (l0_4.length : Int) := of_decide_eq_true (by assumption)
       obtain ⟨ad253, e253, hx253_0, hx253_1, hx253_2⟩ := at_T44 HR0_4.out x7_1 p253 q253
       obtain rfl : ad252 = ad253 := (by injection e253)
       replace hx253_0 := (HB.out.cell (World.block_lt_of_cell? w _ hx253_0)).trans hx253_0
       replace hx253_1 := (HB.out.cell (World.block_lt_of_cell? w _ hx253_1)).trans hx253_1
       replace hx253_2 := (HB.out.cell (World.block_lt_of_cell? w _ hx253_2)).trans hx253_2
       replace p253 := eq_true p253
       replace q253 := eq_true q253
       go_wp2
       go_ret
       exact ⟨er_, hb_⟩
      ·
       rw [if_neg c8] at H
       have c8b0 : (((rd_T44 l0_4 x7_1).f1) == a2) = false := beq_eq_false_iff_ne.mpr c8
       have c8b1 : (((rd_T44 l0_4 x7_1).f1) != a2) = true := bne_iff_ne.mpr c8
       have H' := Aside0.mk H
       clear H
       have hcz10_0 := bc0 BK251
       have hcz10_1 := bc1 BK251
       have hcz10_2 := bc2 BK251
       have hcz10_3 := bc3 BK251
       have hcz10_4 := bc4 BK251
       have hcz10_5 := bc5 BK251
       have hfz10_0 := blk_frozen BK251.out 0
       have hfz10_1 := blk_frozen BK251.out 1
       have hfz10_2 := blk_frozen BK251.out 2
       have hfz10_3 := blk_frozen BK251.out 3
       have hfz10_4 := blk_frozen BK251.out 4
       have hfz10_5 := blk_frozen BK251.out 5
       have p252 : 0 ≤ (x7_1 : Int) := of_decide_eq_true (by assumption)
       have q252 : x7_1 < (l0_4.length : Int) := of_decide_eq_true (by assumption)
       obtain ⟨ad252, e252, hx252_0, hx252_1, hx252_2⟩ := at_T44 HR0_4.out x7_1 p252 q252
       cases e252
       replace hx252_0 := (HB.out.cell (World.block_lt_of_cell? w _ hx252_0)).trans hx252_0
       replace hx252_1 := (HB.out.cell (World.block_lt_of_cell? w _ hx252_1)).trans hx252_1
       replace hx252_2 := (HB.out.cell (World.block_lt_of_cell? w _ hx252_2)).trans hx252_2
       replace p252 := eq_true p252
       replace q252 := eq_true q252
       have p253 : 0 ≤ (x7_1 : Int) := of_decide_eq_true (by assumption)
       have q253 : x7_1 < (l0_4.length : Int) := of_decide_eq_true (by assumption)
       obtain ⟨ad253, e253, hx253_0, hx253_1, hx253_2⟩ := at_T44 HR0_4.out x7_1 p253 q253
       obtain rfl : ad252 = ad253 := (by injection e253)
       replace hx253_0 := (HB.out.cell (World.block_lt_of_cell? w _ hx253_0)).trans hx253_0
       replace hx253_1 := (HB.out.cell (World.block_lt_of_cell? w _ hx253_1)).trans hx253_1
       replace hx253_2 := (HB.out.cell (World.block_lt_of_cell? w _ hx253_2)).trans hx253_2
       replace p253 := eq_true p253
       replace q253 := eq_true q253
       go_wp2
       go_roundg k1
       case measure => have := HK1.out; omega
       case rel => exact ⟨(wrap64 (x7_1 + 1)), rl_, H', ⟨by have := HK1.out; omega⟩, ⟨bj_ BK251⟩, ⟨hb_⟩⟩
     ·
      rw [if_neg c7] at H
      have c7b0 : (((rd_T44 l0_4 x7_1).f0) == a1) = false := beq_eq_false_iff_ne.mpr c7
      have c7b1 : (((rd_T44 l0_4 x7_1).f0) != a1) = true := bne_iff_ne.mpr c7
      have H' := Aside0.mk H
      clear H
      have hcz11_0 := bc0 BK251
      have hcz11_1 := bc1 BK251
      have hcz11_2 := bc2 BK251
      have hcz11_3 := bc3 BK251
      have hcz11_4 := bc4 BK251
      have hcz11_5 := bc5 BK251
      have hfz11_0 := blk_frozen BK251.out 0
      have hfz11_1 := blk_frozen BK251.out 1
      have hfz11_2 := blk_frozen BK251.out 2
      have hfz11_3 := blk_frozen BK251.out 3
      have hfz11_4 := blk_frozen BK251.out 4
      have hfz11_5 := blk_frozen BK251.out 5
      have p252 : 0 ≤ (x7_1 : Int) := of_decide_eq_true (by assumption)
      have q252 : x7_1 < (l0_4.length : Int) := of_decide_eq_true (by assumption)
      obtain ⟨ad252, e252, hx252_0, hx252_1, hx252_2⟩ := at_T44 HR0_4.out x7_1 p252 q252
      cases e252
      replace hx252_0 := (HB.out.cell (World.block_lt_of_cell? w _ hx252_0)).trans hx252_0
      replace hx252_1 := (HB.out.cell (World.block_lt_of_cell? w _ hx252_1)).trans hx252_1
      replace hx252_2 := (HB.out.cell (World.block_lt_of_cell? w _ hx252_2)).trans hx252_2
      replace p252 := eq_true p252
      replace q252 := eq_true q252
      go_wp2
      go_roundg k1
      case measure => have := HK1.out; omega
      case rel => exact ⟨(wrap64 (x7_1 + 1)), rl_, H', ⟨by have := HK1.out; omega⟩, ⟨bj_ BK251⟩, ⟨hb_⟩⟩
    ·
     rw [if_neg c6] at H
     exact absurd H (by simp)
   ·
    rw [if_neg c5] at H
    have c5b0 : decide (x7_1 < (l0_4.length : Int)) = false := decide_eq_false c5
    clear c5
    obtain rfl := Option.some.inj H
    have hcz12_0 := bc0 BK251
    have hcz12_1 := bc1 BK251
    have hcz12_2 := bc2 BK251
    have hcz12_3 := bc3 BK251
    have hcz12_4 := bc4 BK251
    have hcz12_5 := bc5 BK251
    have hfz12_0 := blk_frozen BK251.out 0
    have hfz12_1 := blk_frozen BK251.out 1
    have hfz12_2 := blk_frozen BK251.out 2
    have hfz12_3 := blk_frozen BK251.out 3
    have hfz12_4 := blk_frozen BK251.out 4
    have hfz12_5 := blk_frozen BK251.out 5
    go_wp2
    go_ret
    exact ⟨er_, hb_⟩

/-! ### hopmeshref31_Good: function 74 -/
def hopmeshref31_Good.f (k : Nat) (a0_0 : Int) (l0_1 : List (List Int)) (a0_2 : Int) (a0_3 : Int) (l0_4 : List (S44)) (l0_5 : List Int) (a1 : Int) (a2 : Int) : Option (Bool) := (hopmeshref31_Find.f k a0_0 l0_1 a0_2 a0_3 l0_4 l0_5 a1 a2).bind fun t255 => ((hopmeshref31_Find.f k a0_0 l0_1 a0_2 a0_3 l0_4 l0_5 a2 a1).bind fun t256 => (if t255 ≥ 0 then (if t256 ≥ 0 then (if 0 ≤ t255 then (if t255 < (l0_5.length : Int) then ((hopmeshref31_Heard.f a0_0 l0_1 a0_2 a0_3 l0_4 l0_5 (rd l0_5 t255) 0).bind fun t258 => (if t258 = true then (if 0 ≤ t256 then (if t256 < (l0_5.length : Int) then ((hopmeshref31_Heard.f a0_0 l0_1 a0_2 a0_3 l0_4 l0_5 (rd l0_5 t256) 0).bind fun t260 => (some t260)) else (none)) else (none)) else (some false))) else (none)) else (none)) else (some false)) else (some false)))
theorem hopmeshref31_Good.mono : ∀ a0 a1 a2 a3 a4 a5 a6 a7 k, LeO (hopmeshref31_Good.f k a0 a1 a2 a3 a4 a5 a6 a7) (hopmeshref31_Good.f (k + 1) a0 a1 a2 a3 a4 a5 a6 a7) := by
 intro a0 a1 a2 a3 a4 a5 a6 a7 k
 unfold hopmeshref31_Good.f
 repeat' first
   | (with_reducible exact hopmeshref31_Find.mono _ _ _ _ _ _ _ _ _)
   | (with_reducible exact LeO.refl _)
   | (with_reducible exact LeO.none _)
   | (with_reducible refine LeO.ite ?_ ?_)
   | (with_reducible refine LeO.bind ?_ (fun _ => ?_))
   | exact hopmeshref31_Find.mono _ _ _ _ _ _ _ _ _
   | exact LeO.none _
   | refine LeO.ite ?_ ?_
   | refine LeO.bind ?_ (fun _ => ?_)
def hopmeshref31_Good.T1 : Bool × List (List Nat × List Nat) := (true, [([], []), ([], []), ([], []), ([0, 1, 2], [0, 1, 2]), ([], []), ([], []), ([], []), ([4, 5, 6, 3], [4, 5, 6]), ([3, 7, 0, 1, 2, 3], [3]), ([7, 8, 0, 1, 2, 3, 4, 5, 6, 7, 8], [7])])
def hopmeshref31_Good.B1 : List Nat := [0, 0, 0, 7, 0, 0, 0, 127, 255, 511]
theorem hopmeshref31_Good.tab1 : rtab .any (opsOf Try.f74 1) = hopmeshref31_Good.T1 := by kernel_rfl
theorem hopmeshref31_Good.bits1 : waitsOk hopmeshref31_Good.T1.2 hopmeshref31_Good.B1 = true := by kernel_rfl
def hopmeshref31_Good.T2 : Bool × List (List Nat × List Nat) := (true, [([], []), ([0], [0]), ([1], [1]), ([2], [2]), ([3, 2], [2, 3]), ([2, 4], [2, 4]), ([5, 2], [5]), ([6], [6]), ([6], [6]), ([8, 6], [6, 8]), ([6], [6]), ([9, 10, 6], [6, 9, 10]), ([11, 6], [6, 11]), ([7, 12, 6, 6], [6, 7, 12]), ([6, 13], [6, 13]), ([14, 13], [14]), ([15], [15]), ([15], [15]), ([17, 15], [15, 17]), ([15], [15]), ([18, 19, 15], [15, 18, 19]), ([20, 15], [15, 20]), ([16, 21, 15, 15], [15, 16, 21]), ([15, 22], [15, 22]), ([23, 22, 0, 1, 2, 3, 4, 5, 6, 7, 8, 9, 10, 11, 12, 13, 14, 15, 16, 17, 18, 19, 20, 21, 22, 23], [23])])
def hopmeshref31_Good.B2 : List Nat := [0, 1, 3, 7, 15, 31, 63, 127, 127, 383, 127, 1919, 3967, 8191, 16383, 32767, 65535, 65535, 196607, 65535, 983039, 2031615, 4194303, 8388607, 16777215]
theorem hopmeshref31_Good.tab2 : rtab .any (opsOf Try.f74 2) = hopmeshref31_Good.T2 := by kernel_rfl
theorem hopmeshref31_Good.bits2 : waitsOk hopmeshref31_Good.T2.2 hopmeshref31_Good.B2 = true := by kernel_rfl
set_option maxHeartbeats 8000000 in
set_option maxRecDepth 100000 in
theorem hopmeshref31_Good.calls (k : Nat) (a0_0 : Int) (A0_1 : Option Addr) (c0_1 : Nat) (l0_1 : List (List Int)) (a0_2 : Int) (a0_3 : Int) (A0_4 : Option Addr) (c0_4 : Nat) (l0_4 : List (S44)) (A0_5 : Option Addr) (c0_5 : Nat) (l0_5 : List Int) (a1 : Int) (a2 : Int) (r : Bool) (w : World) (hr0_1 : Kd.C (Kd.slice 3 (Kd.int .i64)) w A0_1 l0_1.length l0_1) (hc0_1 : l0_1.length ≤ c0_1) (hr0_4 : Kd.C k44 w A0_4 l0_4.length l0_4) (hc0_4 : l0_4.length ≤ c0_4) (hr0_5 : Kd.C (Kd.int .i64) w A0_5 l0_5.length l0_5) (hc0_5 : l0_5.length ≤ c0_5) (h : hopmeshref31_Good.f k a0_0 l0_1 a0_2 a0_3 l0_4 l0_5 a1 a2 = some r) :
  Calls Try.prog 74 #[.agg #[.int .i64 a0_0, .slice A0_1 l0_1.length c0_1, .int .i64 a0_2, .int .i64 a0_3, .slice A0_4 l0_4.length c0_4, .slice A0_5 l0_5.length c0_5], .int .i64 a1, .int .i64 a2] w fun e w' => e = .returned (.bool r) ∧ Below w.heap.size w w' := by
 have hu26 := Try.underlying26
 have HR0_1 := Aside0.mk hr0_1
 have HC0_1 := Aside0.mk hc0_1
 clear hr0_1 hc0_1
 have HR0_4 := Aside0.mk hr0_4
 have HC0_4 := Aside0.mk hc0_4
 clear hr0_4 hc0_4
 have HR0_5 := Aside0.mk hr0_5
 have HC0_5 := Aside0.mk hc0_5
 clear hr0_5 hc0_5
 have HB := Aside0.mk (Below.refl w.heap.size w)
 have H : ((hopmeshref31_Find.f k a0_0 l0_1 a0_2 a0_3 l0_4 l0_5 a1 a2).bind fun t255 => ((hopmeshref31_Find.f k a0_0 l0_1 a0_2 a0_3 l0_4 l0_5 a2 a1).bind fun t256 => (if t255 ≥ 0 then (if t256 ≥ 0 then (if 0 ≤ t255 then (if t255 < (l0_5.length : Int) then ((hopmeshref31_Heard.f a0_0 l0_1 a0_2 a0_3 l0_4 l0_5 (rd l0_5 t255) 0).bind fun t258 => (if t258 = true then (if 0 ≤ t256 then (if t256 < (l0_5.length : Int) then ((hopmeshref31_Heard.f a0_0 l0_1 a0_2 a0_3 l0_4 l0_5 (rd l0_5 t256) 0).bind fun t260 => (some t260)) else (none)) else (none)) else (some false))) else (none)) else (none)) else (some false)) else (some false)))) = some r := h
 clear h
 replace H := Option.bind_eq_some_iff.mp H
 obtain ⟨t255, A40, H⟩ := H
 replace H : ((hopmeshref31_Find.f k a0_0 l0_1 a0_2 a0_3 l0_4 l0_5 a2 a1).bind fun t256 => (if t255 ≥ 0 then (if t256 ≥ 0 then (if 0 ≤ t255 then (if t255 < (l0_5.length : Int) then ((hopmeshref31_Heard.f a0_0 l0_1 a0_2 a0_3 l0_4 l0_5 (rd l0_5 t255) 0).bind fun t258 => (if t258 = true then (if 0 ≤ t256 then (if t256 < (l0_5.length : Int) then ((hopmeshref31_Heard.f a0_0 l0_1 a0_2 a0_3 l0_4 l0_5 (rd l0_5 t256) 0).bind fun t260 => (some t260)) else (none)) else (none)) else (some false))) else (none)) else (none)) else (some false)) else (some false))) = some r := H
 have A4 := Aside0.mk A40
 clear A40
 replace H := Option.bind_eq_some_iff.mp H
 obtain ⟨t256, A50, H⟩ := H
 replace H : (if t255 ≥ 0 then (if t256 ≥ 0 then (if 0 ≤ t255 then (if t255 < (l0_5.length : Int) then ((hopmeshref31_Heard.f a0_0 l0_1 a0_2 a0_3 l0_4 l0_5 (rd l0_5 t255) 0).bind fun t258 => (if t258 = true then (if 0 ≤ t256 then (if t256 < (l0_5.length : Int) then ((hopmeshref31_Heard.f a0_0 l0_1 a0_2 a0_3 l0_4 l0_5 (rd l0_5 t256) 0).bind fun t260 => (some t260)) else (none)) else (none)) else (some false))) else (none)) else (none)) else (some false)) else (some false)) = some r := H
 have A5 := Aside0.mk A50
 clear A50
 by_cases c6 : t255 ≥ 0
 ·
  rw [if_pos c6] at H
  have c6b0 : decide (0 ≤ t255) = true := decide_eq_true c6
  clear c6
  by_cases c7 : t256 ≥ 0
  ·
   rw [if_pos c7] at H
   have c7b0 : decide (0 ≤ t256) = true := decide_eq_true c7
   clear c7
   by_cases c8 : 0 ≤ t255
   ·
    rw [if_pos c8] at H
    have c8b0 : decide (0 ≤ t255) = true := decide_eq_true c8
    clear c8
    by_cases c9 : t255 < (l0_5.length : Int)
    ·
     rw [if_pos c9] at H
     have c9b0 : decide (t255 < (l0_5.length : Int)) = true := decide_eq_true c9
     clear c9
     replace H := Option.bind_eq_some_iff.mp H
     obtain ⟨t258, A100, H⟩ := H
     replace H : (if t258 = true then (if 0 ≤ t256 then (if t256 < (l0_5.length : Int) then ((hopmeshref31_Heard.f a0_0 l0_1 a0_2 a0_3 l0_4 l0_5 (rd l0_5 t256) 0).bind fun t260 => (some t260)) else (none)) else (none)) else (some false)) = some r := H
     have A10 := Aside0.mk A100
     clear A100
     by_cases c11 : t258 = true
     ·
      subst c11
      have H1 : (if 0 ≤ t256 then (if t256 < (l0_5.length : Int) then ((hopmeshref31_Heard.f a0_0 l0_1 a0_2 a0_3 l0_4 l0_5 (rd l0_5 t256) 0).bind fun t260 => (some t260)) else (none)) else (none)) = some r := by rw [if_pos rfl] at H; exact H
      clear H
      have H := H1
      clear H1
      by_cases c12 : 0 ≤ t256
      ·
       rw [if_pos c12] at H
       have c12b0 : decide (0 ≤ t256) = true := decide_eq_true c12
       clear c12
       by_cases c13 : t256 < (l0_5.length : Int)
       ·
        rw [if_pos c13] at H
        have c13b0 : decide (t256 < (l0_5.length : Int)) = true := decide_eq_true c13
        clear c13
        replace H := Option.bind_eq_some_iff.mp H
        obtain ⟨t260, A140, H⟩ := H
        replace H : (some t260) = some r := H
        have A14 := Aside0.mk A140
        clear A140
        obtain rfl := Option.some.inj H
        go_enter Try.func74, Try.ntmps74
        try go_wp2_with (first | ((with_reducible refine gate_dst (N := 3) rfl ?_); refine bx_ 3 #[.int .i64 a0_0, .slice A0_1 l0_1.length c0_1, .int .i64 a0_2, .int .i64 a0_3, .slice A0_4 l0_4.length c0_4, .slice A0_5 l0_5.length c0_5] 26 ?_; intro gb254 hg w15 hbox hb; have n0_ := Aside0.mk (below_step hb_ hb); have n1_ := Aside0.mk (hbox); have n2_ := Aside0.mk ((by rw [hg]; exact (below_size hb_) : w.heap.size ≤ gb254)); have n3_ := Aside0.mk ((by rw [hg]; exact (below_size hb_) : w.heap.size ≤ gb254)); clear HB; have HB := n0_; have BK254 := n1_; have GW254 := n2_; have GE254 := n3_; clear n0_ n1_ n2_ n3_; clear hb hbox hg))
        have n0_ := Aside0.mk (blk_drew BK254.out)
        have n1_ := Aside0.mk (below_drew1 HB.out)
        clear BK254
        clear HB
        have BK254 := n0_
        have HB := n1_
        clear n0_ n1_
        refine start_ (n := 10) (S := fun w' => w'.cell? ⟨gb254, 0, none⟩ = some (.int .i64 a0_0) ∧ w'.cell? ⟨gb254, 1, none⟩ = some (.slice A0_1 l0_1.length c0_1) ∧ w'.cell? ⟨gb254, 2, none⟩ = some (.int .i64 a0_2) ∧ w'.cell? ⟨gb254, 3, none⟩ = some (.int .i64 a0_3) ∧ w'.cell? ⟨gb254, 4, none⟩ = some (.slice A0_4 l0_4.length c0_4) ∧ w'.cell? ⟨gb254, 5, none⟩ = some (.slice A0_5 l0_5.length c0_5)) (ds := []) #[false, false, false, false, false, false, false, false, false, false] (by kernel_rfl) rfl rfl ⟨(blk_cell BK254.out 0).trans rfl, (blk_cell BK254.out 1).trans rfl, (blk_cell BK254.out 2).trans rfl, (blk_cell BK254.out 3).trans rfl, (blk_cell BK254.out 4).trans rfl, (blk_cell BK254.out 5).trans rfl⟩ (fun hHeld => ?_); refine with_tabW hopmeshref31_Good.tab1 hopmeshref31_Good.bits1 (fun HT_ HW_ => ?_)
        generalize w15.drew = w16 at BK254 HB hHeld ⊢
        refine pu_ HT_ 1 10 (bl 10 2) ?_
        refine pu_ HT_ 2 11 (bl 10 6) ?_
        refine pu_ HT_ 5 14 (bl 10 38) ?_
        refine pu_ HT_ 6 15 (bl 10 102) ?_
        refine tk_ HT_ HW_ hHeld 0 9 (bl 10 103) ?_
        refine tk_ HT_ HW_ hHeld 4 13 (bl 10 119) ?_
        refine one_ (i := 3) (N := some 12) (bl 10 127) rfl rfl (one_of HT_.out (by kernel_rfl)) (by decide) (fun K hK => ?_)
        refine goes_ Try.func77 (by kernel_rfl) rfl #[.agg #[.int .i64 a0_0, .slice A0_1 l0_1.length c0_1, .int .i64 a0_2, .int .i64 a0_3, .slice A0_4 l0_4.length c0_4, .slice A0_5 l0_5.length c0_5], .int .i64 a1, .int .i64 a2] (by rfl) rfl rfl am_ ?_
        with_reducible refine (hopmeshref31_Find.calls k a0_0 _ _ l0_1 a0_2 a0_3 _ _ l0_4 _ _ l0_5 a1 a2 t255 _ ?side1 ?side2 ?side3 ?side4 ?side5 ?side6 A4.out).mono ?_
        (case side1 | side3 | side5 => exact cb_)
        (case side2 | side4 | side6 => first | exact HC0_1.out | exact HC0_4.out | exact HC0_5.out)
        rintro e w17 ⟨rfl, hb⟩
        refine ⟨_, rfl, ?_⟩
        have n0_ := bk_ BK254 hb
        have n1_ := Aside0.mk (below_step hb_ hb)
        clear BK254
        clear HB
        have BK254 := n0_
        have HB := n1_
        clear n0_ n1_
        (try clear hb)
        (try clear hb2)
        (try clear hk)
        (try clear hi)
        refine hK.out _ _ ⟨(blk_cell BK254.out 0).trans rfl, (blk_cell BK254.out 1).trans rfl, (blk_cell BK254.out 2).trans rfl, (blk_cell BK254.out 3).trans rfl, (blk_cell BK254.out 4).trans rfl, (blk_cell BK254.out 5).trans rfl⟩ (fun hHeld => ?_)
        clear hK K
        refine norm_ (a' := ?_) ?_ ?_
        rotate_left
        ·
         show Act.put _ (some 12) _ = _
         simp only [ap_, s0_, s1_, i64_w]
         rfl
        refine one_ (i := 7) (N := some 16) (bl 10 255) rfl rfl (one_of HT_.out (by kernel_rfl)) (by decide) (fun K hK => ?_)
        refine goes_ Try.func77 (by kernel_rfl) rfl #[.agg #[.int .i64 a0_0, .slice A0_1 l0_1.length c0_1, .int .i64 a0_2, .int .i64 a0_3, .slice A0_4 l0_4.length c0_4, .slice A0_5 l0_5.length c0_5], .int .i64 a2, .int .i64 a1] (by rfl) rfl rfl am_ ?_
        with_reducible refine (hopmeshref31_Find.calls k a0_0 _ _ l0_1 a0_2 a0_3 _ _ l0_4 _ _ l0_5 a2 a1 t256 _ ?side1 ?side2 ?side3 ?side4 ?side5 ?side6 A5.out).mono ?_
        (case side1 | side3 | side5 => exact cb_)
        (case side2 | side4 | side6 => first | exact HC0_1.out | exact HC0_4.out | exact HC0_5.out)
        rintro e w18 ⟨rfl, hb⟩
        refine ⟨_, rfl, ?_⟩
        have n0_ := bk_ BK254 hb
        have n1_ := Aside0.mk (below_step hb_ hb)
        clear BK254
        clear HB
        have BK254 := n0_
        have HB := n1_
        clear n0_ n1_
        (try clear hb)
        (try clear hb2)
        (try clear hk)
        (try clear hi)
        refine hK.out _ _ ⟨(blk_cell BK254.out 0).trans rfl, (blk_cell BK254.out 1).trans rfl, (blk_cell BK254.out 2).trans rfl, (blk_cell BK254.out 3).trans rfl, (blk_cell BK254.out 4).trans rfl, (blk_cell BK254.out 5).trans rfl⟩ (fun hHeld => ?_)
        clear hK K
        refine norm_ (a' := ?_) ?_ ?_
        rotate_left
        ·
         show Act.put _ (some 16) _ = _
         simp only [ap_, s0_, s1_, i64_w]
         rfl
        refine pu_ HT_ 8 7 (bl 10 511) ?_
        refine pu_ HT_ 9 8 (bl 10 1023) ?_
        refine done_ (done_of HT_.out (by kernel_rfl)) ?_
        try go_wp2
        have n0_ := Aside0.mk (blk_drew BK254.out)
        have n1_ := Aside0.mk (below_drew1 HB.out)
        clear BK254
        clear HB
        have BK254 := n0_
        have HB := n1_
        clear n0_ n1_
        have p257 : 0 ≤ (t255 : Int) := of_decide_eq_true (by assumption)
        have q257 : t255 < (l0_5.length : Int) := of_decide_eq_true (by assumption)
        obtain ⟨ad257, e257, hx257_0⟩ := Kd.at_int HR0_5.out t255 p257 q257
        have hw257_0 := hx257_0
        cases e257
        replace hx257_0 := (HB.out.cell (World.block_lt_of_cell? w _ hx257_0)).trans hx257_0
        replace p257 := eq_true p257
        replace q257 := eq_true q257
        have p259 : 0 ≤ (t256 : Int) := of_decide_eq_true (by assumption)
        have q259 : t256 < (l0_5.length : Int) := of_decide_eq_true (by assumption)
        obtain ⟨ad259, e259, hx259_0⟩ := Kd.at_int HR0_5.out t256 p259 q259
        have hw259_0 := hx259_0
        obtain rfl : ad257 = ad259 := (by injection e259)
        replace hx259_0 := (HB.out.cell (World.block_lt_of_cell? w _ hx259_0)).trans hx259_0
        replace p259 := eq_true p259
        replace q259 := eq_true q259
        refine start_ (n := 25) (S := fun w' => w'.cell? ⟨gb254, 0, none⟩ = some (.int .i64 a0_0) ∧ w'.cell? ⟨gb254, 1, none⟩ = some (.slice A0_1 l0_1.length c0_1) ∧ w'.cell? ⟨gb254, 2, none⟩ = some (.int .i64 a0_2) ∧ w'.cell? ⟨gb254, 3, none⟩ = some (.int .i64 a0_3) ∧ w'.cell? ⟨gb254, 4, none⟩ = some (.slice A0_4 l0_4.length c0_4) ∧ w'.cell? ⟨gb254, 5, none⟩ = some (.slice (some ad257) l0_5.length c0_5) ∧ w'.cell? (ad257.add (t255).toNat) = some (.int .i64 (rd l0_5 t255)) ∧ w'.cell? (ad257.add (t256).toNat) = some (.int .i64 (rd l0_5 t256))) (ds := []) #[false, false, false, false, false, false, false, false, false, false, false, false, false, false, false, false, false, false, false, false, false, false, false, false, false] (by kernel_rfl) rfl rfl ⟨(blk_cell BK254.out 0).trans rfl, (blk_cell BK254.out 1).trans rfl, (blk_cell BK254.out 2).trans rfl, (blk_cell BK254.out 3).trans rfl, (blk_cell BK254.out 4).trans rfl, (blk_cell BK254.out 5).trans rfl, ((HB.out.cell (World.block_lt_of_cell? w _ hw257_0)).trans hw257_0), ((HB.out.cell (World.block_lt_of_cell? w _ hw259_0)).trans hw259_0)⟩ (fun hHeld => ?_); refine with_tabW hopmeshref31_Good.tab2 hopmeshref31_Good.bits2 (fun HT_ HW_ => ?_)
        generalize w18.drew = w19 at BK254 HB hx257_0 hx259_0 hHeld ⊢
        refine pu_ HT_ 0 17 (bl 25 1) ?_
        refine pu_ HT_ 1 18 (bl 25 3) ?_
        refine pu_ HT_ 2 19 (bl 25 7) ?_
        refine pu_ HT_ 3 20 (bl 25 15) ?_
        refine pu_ HT_ 4 21 (bl 25 31) ?_
        refine pu_ HT_ 5 22 (bl 25 63) ?_
        refine pu_ HT_ 6 23 (bl 25 127) ?_
        refine pu_ HT_ 8 25 (bl 25 383) ?_
        refine pu_ HT_ 10 27 (bl 25 1407) ?_
        refine tk_ HT_ HW_ hHeld 7 24 (bl 25 1535) ?_
        refine tk_ HT_ HW_ hHeld 9 26 (bl 25 2047) ?_
        refine pu_ HT_ 11 28 (bl 25 4095) ?_
        refine tk_ HT_ HW_ hHeld 12 29 (bl 25 8191) ?_
        refine one_ (i := 13) (N := some 30) (bl 25 16383) rfl rfl (one_of HT_.out (by kernel_rfl)) (by decide) (fun K hK => ?_)
        refine goes_ Try.func76 (by kernel_rfl) rfl #[.agg #[.int .i64 a0_0, .slice A0_1 l0_1.length c0_1, .int .i64 a0_2, .int .i64 a0_3, .slice A0_4 l0_4.length c0_4, .slice (some ad257) l0_5.length c0_5], .int .i64 (rd l0_5 t255), .int .i64 0] (by rfl) rfl rfl am_ ?_
        with_reducible refine (hopmeshref31_Heard.calls a0_0 _ _ l0_1 a0_2 a0_3 _ _ l0_4 _ _ l0_5 (rd l0_5 t255) 0 true _ ?side1 ?side2 ?side3 ?side4 ?side5 ?side6 A10.out).mono ?_
        (case side1 | side3 | side5 => exact cb_)
        (case side2 | side4 | side6 => first | exact HC0_1.out | exact HC0_4.out | exact HC0_5.out)
        rintro e w20 ⟨rfl, hb⟩
        refine ⟨_, rfl, ?_⟩
        have n0_ := bk_ BK254 hb
        have n1_ := Aside0.mk (below_step hb_ hb)
        clear BK254
        clear HB
        have BK254 := n0_
        have HB := n1_
        clear n0_ n1_
        (try clear hb)
        (try clear hb2)
        (try clear hk)
        (try clear hi)
        refine hK.out _ _ ⟨(blk_cell BK254.out 0).trans rfl, (blk_cell BK254.out 1).trans rfl, (blk_cell BK254.out 2).trans rfl, (blk_cell BK254.out 3).trans rfl, (blk_cell BK254.out 4).trans rfl, (blk_cell BK254.out 5).trans rfl, ((HB.out.cell (World.block_lt_of_cell? w _ hw257_0)).trans hw257_0), ((HB.out.cell (World.block_lt_of_cell? w _ hw259_0)).trans hw259_0)⟩ (fun hHeld => ?_)
        clear hK K
        refine norm_ (a' := ?_) ?_ ?_
        rotate_left
        ·
         show Act.put _ (some 30) _ = _
         simp only [ap_, s0_, s1_, i64_w]
         rfl
        refine pu_ HT_ 14 31 (bl 25 32767) ?_
        refine pu_ HT_ 15 32 (bl 25 65535) ?_
        refine pu_ HT_ 17 34 (bl 25 196607) ?_
        refine pu_ HT_ 19 36 (bl 25 720895) ?_
        refine tk_ HT_ HW_ hHeld 16 33 (bl 25 786431) ?_
        refine tk_ HT_ HW_ hHeld 18 35 (bl 25 1048575) ?_
        refine pu_ HT_ 20 37 (bl 25 2097151) ?_
        refine tk_ HT_ HW_ hHeld 21 38 (bl 25 4194303) ?_
        refine one_ (i := 22) (N := some 39) (bl 25 8388607) rfl rfl (one_of HT_.out (by kernel_rfl)) (by decide) (fun K hK => ?_)
        refine goes_ Try.func76 (by kernel_rfl) rfl #[.agg #[.int .i64 a0_0, .slice A0_1 l0_1.length c0_1, .int .i64 a0_2, .int .i64 a0_3, .slice A0_4 l0_4.length c0_4, .slice (some ad257) l0_5.length c0_5], .int .i64 (rd l0_5 t256), .int .i64 0] (by rfl) rfl rfl am_ ?_
        with_reducible refine (hopmeshref31_Heard.calls a0_0 _ _ l0_1 a0_2 a0_3 _ _ l0_4 _ _ l0_5 (rd l0_5 t256) 0 t260 _ ?side1 ?side2 ?side3 ?side4 ?side5 ?side6 A14.out).mono ?_
        (case side1 | side3 | side5 => exact cb_)
        (case side2 | side4 | side6 => first | exact HC0_1.out | exact HC0_4.out | exact HC0_5.out)
        rintro e w21 ⟨rfl, hb⟩
        refine ⟨_, rfl, ?_⟩
        have n0_ := bk_ BK254 hb
        have n1_ := Aside0.mk (below_step hb_ hb)
        clear BK254
        clear HB
        have BK254 := n0_
        have HB := n1_
        clear n0_ n1_
        (try clear hb)
        (try clear hb2)
        (try clear hk)
        (try clear hi)
        refine hK.out _ _ ⟨(blk_cell BK254.out 0).trans rfl, (blk_cell BK254.out 1).trans rfl, (blk_cell BK254.out 2).trans rfl, (blk_cell BK254.out 3).trans rfl, (blk_cell BK254.out 4).trans rfl, (blk_cell BK254.out 5).trans rfl, ((HB.out.cell (World.block_lt_of_cell? w _ hw257_0)).trans hw257_0), ((HB.out.cell (World.block_lt_of_cell? w _ hw259_0)).trans hw259_0)⟩ (fun hHeld => ?_)
        clear hK K
        refine norm_ (a' := ?_) ?_ ?_
        rotate_left
        ·
         show Act.put _ (some 39) _ = _
         simp only [ap_, s0_, s1_, i64_w]
         rfl
        refine pu_ HT_ 23 40 (bl 25 16777215) ?_
        refine pu_ HT_ 24 6 (bl 25 33554431) ?_
        refine done_ (done_of HT_.out (by kernel_rfl)) ?_
        try go_wp2
        go_ret
        exact ⟨er_, hb_⟩
       ·
        rw [if_neg c13] at H
        exact absurd H (by simp)
      ·
       rw [if_neg c12] at H
       exact absurd H (by simp)
     ·
      replace c11 := Bool.eq_false_iff.mpr c11
      subst c11
      have H1 : (some false) = some r := by rw [if_neg (show ¬ (false = true) by decide)] at H; exact H
      clear H
      have H := H1
      clear H1
      obtain rfl := Option.some.inj H
      go_enter Try.func74, Try.ntmps74
      try go_wp2_with (first | ((with_reducible refine gate_dst (N := 3) rfl ?_); refine bx_ 3 #[.int .i64 a0_0, .slice A0_1 l0_1.length c0_1, .int .i64 a0_2, .int .i64 a0_3, .slice A0_4 l0_4.length c0_4, .slice A0_5 l0_5.length c0_5] 26 ?_; intro gb254 hg w22 hbox hb; have n0_ := Aside0.mk (below_step hb_ hb); have n1_ := Aside0.mk (hbox); have n2_ := Aside0.mk ((by rw [hg]; exact (below_size hb_) : w.heap.size ≤ gb254)); have n3_ := Aside0.mk ((by rw [hg]; exact (below_size hb_) : w.heap.size ≤ gb254)); clear HB; have HB := n0_; have BK254 := n1_; have GW254 := n2_; have GE254 := n3_; clear n0_ n1_ n2_ n3_; clear hb hbox hg))
      have n0_ := Aside0.mk (blk_drew BK254.out)
      have n1_ := Aside0.mk (below_drew1 HB.out)
      clear BK254
      clear HB
      have BK254 := n0_
      have HB := n1_
      clear n0_ n1_
      refine start_ (n := 10) (S := fun w' => w'.cell? ⟨gb254, 0, none⟩ = some (.int .i64 a0_0) ∧ w'.cell? ⟨gb254, 1, none⟩ = some (.slice A0_1 l0_1.length c0_1) ∧ w'.cell? ⟨gb254, 2, none⟩ = some (.int .i64 a0_2) ∧ w'.cell? ⟨gb254, 3, none⟩ = some (.int .i64 a0_3) ∧ w'.cell? ⟨gb254, 4, none⟩ = some (.slice A0_4 l0_4.length c0_4) ∧ w'.cell? ⟨gb254, 5, none⟩ = some (.slice A0_5 l0_5.length c0_5)) (ds := []) #[false, false, false, false, false, false, false, false, false, false] (by kernel_rfl) rfl rfl ⟨(blk_cell BK254.out 0).trans rfl, (blk_cell BK254.out 1).trans rfl, (blk_cell BK254.out 2).trans rfl, (blk_cell BK254.out 3).trans rfl, (blk_cell BK254.out 4).trans rfl, (blk_cell BK254.out 5).trans rfl⟩ (fun hHeld => ?_); refine with_tabW hopmeshref31_Good.tab1 hopmeshref31_Good.bits1 (fun HT_ HW_ => ?_)
      generalize w22.drew = w23 at BK254 HB hHeld ⊢
      refine pu_ HT_ 1 10 (bl 10 2) ?_
      refine pu_ HT_ 2 11 (bl 10 6) ?_
      refine pu_ HT_ 5 14 (bl 10 38) ?_
      refine pu_ HT_ 6 15 (bl 10 102) ?_
      refine tk_ HT_ HW_ hHeld 0 9 (bl 10 103) ?_
      refine tk_ HT_ HW_ hHeld 4 13 (bl 10 119) ?_
      refine one_ (i := 3) (N := some 12) (bl 10 127) rfl rfl (one_of HT_.out (by kernel_rfl)) (by decide) (fun K hK => ?_)
      refine goes_ Try.func77 (by kernel_rfl) rfl #[.agg #[.int .i64 a0_0, .slice A0_1 l0_1.length c0_1, .int .i64 a0_2, .int .i64 a0_3, .slice A0_4 l0_4.length c0_4, .slice A0_5 l0_5.length c0_5], .int .i64 a1, .int .i64 a2] (by rfl) rfl rfl am_ ?_
      with_reducible refine (hopmeshref31_Find.calls k a0_0 _ _ l0_1 a0_2 a0_3 _ _ l0_4 _ _ l0_5 a1 a2 t255 _ ?side1 ?side2 ?side3 ?side4 ?side5 ?side6 A4.out).mono ?_
      (case side1 | side3 | side5 => exact cb_)
      (case side2 | side4 | side6 => first | exact HC0_1.out | exact HC0_4.out | exact HC0_5.out)
      rintro e w24 ⟨rfl, hb⟩
      refine ⟨_, rfl, ?_⟩
      have n0_ := bk_ BK254 hb
      have n1_ := Aside0.mk (below_step hb_ hb)
      clear BK254
      clear HB
      have BK254 := n0_
      have HB := n1_
      clear n0_ n1_
      (try clear hb)
      (try clear hb2)
      (try clear hk)
      (try clear hi)
      refine hK.out _ _ ⟨(blk_cell BK254.out 0).trans rfl, (blk_cell BK254.out 1).trans rfl, (blk_cell BK254.out 2).trans rfl, (blk_cell BK254.out 3).trans rfl, (blk_cell BK254.out 4).trans rfl, (blk_cell BK254.out 5).trans rfl⟩ (fun hHeld => ?_)
      clear hK K
      refine norm_ (a' := ?_) ?_ ?_
      rotate_left
      ·
       show Act.put _ (some 12) _ = _
       simp only [ap_, s0_, s1_, i64_w]
       rfl
      refine one_ (i := 7) (N := some 16) (bl 10 255) rfl rfl (one_of HT_.out (by kernel_rfl)) (by decide) (fun K hK => ?_)
      refine goes_ Try.func77 (by kernel_rfl) rfl #[.agg #[.int .i64 a0_0, .slice A0_1 l0_1.length c0_1, .int .i64 a0_2, .int .i64 a0_3, .slice A0_4 l0_4.length c0_4, .slice A0_5 l0_5.length c0_5], .int .i64 a2, .int .i64 a1] (by rfl) rfl rfl am_ ?_
      with_reducible refine (hopmeshref31_Find.calls k a0_0 _ _ l0_1 a0_2 a0_3 _ _ l0_4 _ _ l0_5 a2 a1 t256 _ ?side1 ?side2 ?side3 ?side4 ?side5 ?side6 A5.out).mono ?_
      (case side1 | side3 | side5 => exact cb_)
      (case side2 | side4 | side6 => first | exact HC0_1.out | exact HC0_4.out | exact HC0_5.out)
      rintro e w25 ⟨rfl, hb⟩
      refine ⟨_, rfl, ?_⟩
      have n0_ := bk_ BK254 hb
      have n1_ := Aside0.mk (below_step hb_ hb)
      clear BK254
      clear HB
      have BK254 := n0_
      have HB := n1_
      clear n0_ n1_
      (try clear hb)
      (try clear hb2)
      (try clear hk)
      (try clear hi)
      refine hK.out _ _ ⟨(blk_cell BK254.out 0).trans rfl, (blk_cell BK254.out 1).trans rfl, (blk_cell BK254.out 2).trans rfl, (blk_cell BK254.out 3).trans rfl, (blk_cell BK254.out 4).trans rfl, (blk_cell BK254.out 5).trans rfl⟩ (fun hHeld => ?_)
      clear hK K
      refine norm_ (a' := ?_) ?_ ?_
      rotate_left
      ·
       show Act.put _ (some 16) _ = _
       simp only [ap_, s0_, s1_, i64_w]
       rfl
      refine pu_ HT_ 8 7 (bl 10 511) ?_
      refine pu_ HT_ 9 8 (bl 10 1023) ?_
      refine done_ (done_of HT_.out (by kernel_rfl)) ?_
      try go_wp2
      have n0_ := Aside0.mk (blk_drew BK254.out)
      have n1_ := Aside0.mk (below_drew1 HB.out)
      clear BK254
      clear HB
      have BK254 := n0_
      have HB := n1_
      clear n0_ n1_
      have p257 : 0 ≤ (t255 : Int) := of_decide_eq_true (by assumption)
      have q257 : t255 < (l0_5.length : Int) := of_decide_eq_true (by assumption)
      obtain ⟨ad257, e257, hx257_0⟩ := Kd.at_int HR0_5.out t255 p257 q257
      have hw257_0 := hx257_0
      cases e257
      replace hx257_0 := (HB.out.cell (World.block_lt_of_cell? w _ hx257_0)).trans hx257_0
      replace p257 := eq_true p257
      replace q257 := eq_true q257
      refine start_ (n := 25) (S := fun w' => w'.cell? ⟨gb254, 0, none⟩ = some (.int .i64 a0_0) ∧ w'.cell? ⟨gb254, 1, none⟩ = some (.slice A0_1 l0_1.length c0_1) ∧ w'.cell? ⟨gb254, 2, none⟩ = some (.int .i64 a0_2) ∧ w'.cell? ⟨gb254, 3, none⟩ = some (.int .i64 a0_3) ∧ w'.cell? ⟨gb254, 4, none⟩ = some (.slice A0_4 l0_4.length c0_4) ∧ w'.cell? ⟨gb254, 5, none⟩ = some (.slice (some ad257) l0_5.length c0_5) ∧ w'.cell? (ad257.add (t255).toNat) = some (.int .i64 (rd l0_5 t255))) (ds := []) #[false, false, false, false, false, false, false, false, false, false, false, false, false, false, false, false, false, false, false, false, false, false, false, false, false] (by kernel_rfl) rfl rfl ⟨(blk_cell BK254.out 0).trans rfl, (blk_cell BK254.out 1).trans rfl, (blk_cell BK254.out 2).trans rfl, (blk_cell BK254.out 3).trans rfl, (blk_cell BK254.out 4).trans rfl, (blk_cell BK254.out 5).trans rfl, ((HB.out.cell (World.block_lt_of_cell? w _ hw257_0)).trans hw257_0)⟩ (fun hHeld => ?_); refine with_tabW hopmeshref31_Good.tab2 hopmeshref31_Good.bits2 (fun HT_ HW_ => ?_)
      generalize w25.drew = w26 at BK254 HB hx257_0 hHeld ⊢
      refine pu_ HT_ 0 17 (bl 25 1) ?_
      refine pu_ HT_ 1 18 (bl 25 3) ?_
      refine pu_ HT_ 2 19 (bl 25 7) ?_
      refine pu_ HT_ 3 20 (bl 25 15) ?_
      refine pu_ HT_ 4 21 (bl 25 31) ?_
      refine pu_ HT_ 5 22 (bl 25 63) ?_
      refine pu_ HT_ 6 23 (bl 25 127) ?_
      refine pu_ HT_ 8 25 (bl 25 383) ?_
      refine pu_ HT_ 10 27 (bl 25 1407) ?_
      refine tk_ HT_ HW_ hHeld 7 24 (bl 25 1535) ?_
      refine tk_ HT_ HW_ hHeld 9 26 (bl 25 2047) ?_
      refine pu_ HT_ 11 28 (bl 25 4095) ?_
      refine tk_ HT_ HW_ hHeld 12 29 (bl 25 8191) ?_
      refine one_ (i := 13) (N := some 30) (bl 25 16383) rfl rfl (one_of HT_.out (by kernel_rfl)) (by decide) (fun K hK => ?_)
      refine goes_ Try.func76 (by kernel_rfl) rfl #[.agg #[.int .i64 a0_0, .slice A0_1 l0_1.length c0_1, .int .i64 a0_2, .int .i64 a0_3, .slice A0_4 l0_4.length c0_4, .slice (some ad257) l0_5.length c0_5], .int .i64 (rd l0_5 t255), .int .i64 0] (by rfl) rfl rfl am_ ?_
      with_reducible refine (hopmeshref31_Heard.calls a0_0 _ _ l0_1 a0_2 a0_3 _ _ l0_4 _ _ l0_5 (rd l0_5 t255) 0 false _ ?side1 ?side2 ?side3 ?side4 ?side5 ?side6 A10.out).mono ?_
      (case side1 | side3 | side5 => exact cb_)
      (case side2 | side4 | side6 => first | exact HC0_1.out | exact HC0_4.out | exact HC0_5.out)
      rintro e w27 ⟨rfl, hb⟩
      refine ⟨_, rfl, ?_⟩
      have n0_ := bk_ BK254 hb
      have n1_ := Aside0.mk (below_step hb_ hb)
      clear BK254
      clear HB
      have BK254 := n0_
      have HB := n1_
      clear n0_ n1_
      (try clear hb)
      (try clear hb2)
      (try clear hk)
      (try clear hi)
      refine hK.out _ _ ⟨(blk_cell BK254.out 0).trans rfl, (blk_cell BK254.out 1).trans rfl, (blk_cell BK254.out 2).trans rfl, (blk_cell BK254.out 3).trans rfl, (blk_cell BK254.out 4).trans rfl, (blk_cell BK254.out 5).trans rfl, ((HB.out.cell (World.block_lt_of_cell? w _ hw257_0)).trans hw257_0)⟩ (fun hHeld => ?_)
      clear hK K
      refine norm_ (a' := ?_) ?_ ?_
      rotate_left
      ·
       show Act.put _ (some 30) _ = _
       simp only [ap_, s0_, s1_, i64_w]
       rfl
      refine pu_ HT_ 14 31 (bl 25 32767) ?_
      refine pu_ HT_ 15 32 (bl 25 65535) ?_
      refine of_ HT_ 16 33 (bl 25 131071) ?_
      refine of_ HT_ 17 34 (bl 25 262143) ?_
      refine of_ HT_ 18 35 (bl 25 524287) ?_
      refine of_ HT_ 19 36 (bl 25 1048575) ?_
      refine of_ HT_ 20 37 (bl 25 2097151) ?_
      refine of_ HT_ 21 38 (bl 25 4194303) ?_
      refine of_ HT_ 22 39 (bl 25 8388607) ?_
      refine pu_ HT_ 23 40 (bl 25 16777215) ?_
      refine pu_ HT_ 24 6 (bl 25 33554431) ?_
      refine done_ (done_of HT_.out (by kernel_rfl)) ?_
      try go_wp2
      go_ret
      exact ⟨er_, hb_⟩
    ·
     rw [if_neg c9] at H
     exact absurd H (by simp)
   ·
    rw [if_neg c8] at H
    exact absurd H (by simp)
  ·
   rw [if_neg c7] at H
   have c7b0 : decide (0 ≤ t256) = false := decide_eq_false c7
   clear c7
   obtain rfl := Option.some.inj H
   go_enter Try.func74, Try.ntmps74
   try go_wp2_with (first | ((with_reducible refine gate_dst (N := 3) rfl ?_); refine bx_ 3 #[.int .i64 a0_0, .slice A0_1 l0_1.length c0_1, .int .i64 a0_2, .int .i64 a0_3, .slice A0_4 l0_4.length c0_4, .slice A0_5 l0_5.length c0_5] 26 ?_; intro gb254 hg w28 hbox hb; have n0_ := Aside0.mk (below_step hb_ hb); have n1_ := Aside0.mk (hbox); have n2_ := Aside0.mk ((by rw [hg]; exact (below_size hb_) : w.heap.size ≤ gb254)); have n3_ := Aside0.mk ((by rw [hg]; exact (below_size hb_) : w.heap.size ≤ gb254)); clear HB; have HB := n0_; have BK254 := n1_; have GW254 := n2_; have GE254 := n3_; clear n0_ n1_ n2_ n3_; clear hb hbox hg))
   have n0_ := Aside0.mk (blk_drew BK254.out)
   have n1_ := Aside0.mk (below_drew1 HB.out)
   clear BK254
   clear HB
   have BK254 := n0_
   have HB := n1_
   clear n0_ n1_
   refine start_ (n := 10) (S := fun w' => w'.cell? ⟨gb254, 0, none⟩ = some (.int .i64 a0_0) ∧ w'.cell? ⟨gb254, 1, none⟩ = some (.slice A0_1 l0_1.length c0_1) ∧ w'.cell? ⟨gb254, 2, none⟩ = some (.int .i64 a0_2) ∧ w'.cell? ⟨gb254, 3, none⟩ = some (.int .i64 a0_3) ∧ w'.cell? ⟨gb254, 4, none⟩ = some (.slice A0_4 l0_4.length c0_4) ∧ w'.cell? ⟨gb254, 5, none⟩ = some (.slice A0_5 l0_5.length c0_5)) (ds := []) #[false, false, false, false, false, false, false, false, false, false] (by kernel_rfl) rfl rfl ⟨(blk_cell BK254.out 0).trans rfl, (blk_cell BK254.out 1).trans rfl, (blk_cell BK254.out 2).trans rfl, (blk_cell BK254.out 3).trans rfl, (blk_cell BK254.out 4).trans rfl, (blk_cell BK254.out 5).trans rfl⟩ (fun hHeld => ?_); refine with_tabW hopmeshref31_Good.tab1 hopmeshref31_Good.bits1 (fun HT_ HW_ => ?_)
   generalize w28.drew = w29 at BK254 HB hHeld ⊢
   refine pu_ HT_ 1 10 (bl 10 2) ?_
   refine pu_ HT_ 2 11 (bl 10 6) ?_
   refine pu_ HT_ 5 14 (bl 10 38) ?_
   refine pu_ HT_ 6 15 (bl 10 102) ?_
   refine tk_ HT_ HW_ hHeld 0 9 (bl 10 103) ?_
   refine tk_ HT_ HW_ hHeld 4 13 (bl 10 119) ?_
   refine one_ (i := 3) (N := some 12) (bl 10 127) rfl rfl (one_of HT_.out (by kernel_rfl)) (by decide) (fun K hK => ?_)
   refine goes_ Try.func77 (by kernel_rfl) rfl #[.agg #[.int .i64 a0_0, .slice A0_1 l0_1.length c0_1, .int .i64 a0_2, .int .i64 a0_3, .slice A0_4 l0_4.length c0_4, .slice A0_5 l0_5.length c0_5], .int .i64 a1, .int .i64 a2] (by rfl) rfl rfl am_ ?_
   with_reducible refine (hopmeshref31_Find.calls k a0_0 _ _ l0_1 a0_2 a0_3 _ _ l0_4 _ _ l0_5 a1 a2 t255 _ ?side1 ?side2 ?side3 ?side4 ?side5 ?side6 A4.out).mono ?_
   (case side1 | side3 | side5 => exact cb_)
   (case side2 | side4 | side6 => first | exact HC0_1.out | exact HC0_4.out | exact HC0_5.out)
   rintro e w30 ⟨rfl, hb⟩
   refine ⟨_, rfl, ?_⟩
   have n0_ := bk_ BK254 hb
   have n1_ := Aside0.mk (below_step hb_ hb)
   clear BK254
   clear HB
   have BK254 := n0_
   have HB := n1_
   clear n0_ n1_
   (try clear hb)
   (try clear hb2)
   (try clear hk)
   (try clear hi)
   refine hK.out _ _ ⟨(blk_cell BK254.out 0).trans rfl, (blk_cell BK254.out 1).trans rfl, (blk_cell BK254.out 2).trans rfl, (blk_cell BK254.out 3).trans rfl, (blk_cell BK254.out 4).trans rfl, (blk_cell BK254.out 5).trans rfl⟩ (fun hHeld => ?_)
   clear hK K
   refine norm_ (a' := ?_) ?_ ?_
   rotate_left
   ·
    show Act.put _ (some 12) _ = _
    simp only [ap_, s0_, s1_, i64_w]
    rfl
   refine one_ (i := 7) (N := some 16) (bl 10 255) rfl rfl (one_of HT_.out (by kernel_rfl)) (by decide) (fun K hK => ?_)
   refine goes_ Try.func77 (by kernel_rfl) rfl #[.agg #[.int .i64 a0_0, .slice A0_1 l0_1.length c0_1, .int .i64 a0_2, .int .i64 a0_3, .slice A0_4 l0_4.length c0_4, .slice A0_5 l0_5.length c0_5], .int .i64 a2, .int .i64 a1] (by rfl) rfl rfl am_ ?_
   with_reducible refine (hopmeshref31_Find.calls k a0_0 _ _ l0_1 a0_2 a0_3 _ _ l0_4 _ _ l0_5 a2 a1 t256 _ ?side1 ?side2 ?side3 ?side4 ?side5 ?side6 A5.out).mono ?_
   (case side1 | side3 | side5 => exact cb_)
   (case side2 | side4 | side6 => first | exact HC0_1.out | exact HC0_4.out | exact HC0_5.out)
   rintro e w31 ⟨rfl, hb⟩
   refine ⟨_, rfl, ?_⟩
   have n0_ := bk_ BK254 hb
   have n1_ := Aside0.mk (below_step hb_ hb)
   clear BK254
   clear HB
   have BK254 := n0_
   have HB := n1_
   clear n0_ n1_
   (try clear hb)
   (try clear hb2)
   (try clear hk)
   (try clear hi)
   refine hK.out _ _ ⟨(blk_cell BK254.out 0).trans rfl, (blk_cell BK254.out 1).trans rfl, (blk_cell BK254.out 2).trans rfl, (blk_cell BK254.out 3).trans rfl, (blk_cell BK254.out 4).trans rfl, (blk_cell BK254.out 5).trans rfl⟩ (fun hHeld => ?_)
   clear hK K
   refine norm_ (a' := ?_) ?_ ?_
   rotate_left
   ·
    show Act.put _ (some 16) _ = _
    simp only [ap_, s0_, s1_, i64_w]
    rfl
   refine pu_ HT_ 8 7 (bl 10 511) ?_
   refine pu_ HT_ 9 8 (bl 10 1023) ?_
   refine done_ (done_of HT_.out (by kernel_rfl)) ?_
   try go_wp2
   have n0_ := Aside0.mk (blk_drew BK254.out)
   have n1_ := Aside0.mk (below_drew1 HB.out)
   clear BK254
   clear HB
   have BK254 := n0_
   have HB := n1_
   clear n0_ n1_
   refine start_ (n := 25) (S := fun w' => True) (ds := []) #[false, false, false, false, false, false, false, false, false, false, false, false, false, false, false, false, false, false, false, false, false, false, false, false, false] (by kernel_rfl) rfl rfl trivial (fun hHeld => ?_); refine with_tabW hopmeshref31_Good.tab2 hopmeshref31_Good.bits2 (fun HT_ HW_ => ?_)
   generalize w31.drew = w32 at BK254 HB hHeld ⊢
   refine pu_ HT_ 0 17 (bl 25 1) ?_
   refine pu_ HT_ 1 18 (bl 25 3) ?_
   refine pu_ HT_ 2 19 (bl 25 7) ?_
   refine pu_ HT_ 3 20 (bl 25 15) ?_
   refine pu_ HT_ 4 21 (bl 25 31) ?_
   refine pu_ HT_ 5 22 (bl 25 63) ?_
   refine pu_ HT_ 6 23 (bl 25 127) ?_
   refine of_ HT_ 7 24 (bl 25 255) ?_
   refine of_ HT_ 8 25 (bl 25 511) ?_
   refine of_ HT_ 9 26 (bl 25 1023) ?_
   refine of_ HT_ 10 27 (bl 25 2047) ?_
   refine of_ HT_ 11 28 (bl 25 4095) ?_
   refine of_ HT_ 12 29 (bl 25 8191) ?_
   refine of_ HT_ 13 30 (bl 25 16383) ?_
   refine pu_ HT_ 14 31 (bl 25 32767) ?_
   refine pu_ HT_ 15 32 (bl 25 65535) ?_
   refine of_ HT_ 16 33 (bl 25 131071) ?_
   refine of_ HT_ 17 34 (bl 25 262143) ?_
   refine of_ HT_ 18 35 (bl 25 524287) ?_
   refine of_ HT_ 19 36 (bl 25 1048575) ?_
   refine of_ HT_ 20 37 (bl 25 2097151) ?_
   refine of_ HT_ 21 38 (bl 25 4194303) ?_
   refine of_ HT_ 22 39 (bl 25 8388607) ?_
   refine pu_ HT_ 23 40 (bl 25 16777215) ?_
   refine pu_ HT_ 24 6 (bl 25 33554431) ?_
   refine done_ (done_of HT_.out (by kernel_rfl)) ?_
   try go_wp2
   go_ret
   exact ⟨er_, hb_⟩
 ·
  rw [if_neg c6] at H
  have c6b0 : decide (0 ≤ t255) = false := decide_eq_false c6
  clear c6
  obtain rfl := Option.some.inj H
  go_enter Try.func74, Try.ntmps74
  try go_wp2_with (first | ((with_reducible refine gate_dst (N := 3) rfl ?_); refine bx_ 3 #[.int .i64 a0_0, .slice A0_1 l0_1.length c0_1, .int .i64 a0_2, .int .i64 a0_3, .slice A0_4 l0_4.length c0_4, .slice A0_5 l0_5.length c0_5] 26 ?_; intro gb254 hg w33 hbox hb; have n0_ := Aside0.mk (below_step hb_ hb); have n1_ := Aside0.mk (hbox); have n2_ := Aside0.mk ((by rw [hg]; exact (below_size hb_) : w.heap.size ≤ gb254)); have n3_ := Aside0.mk ((by rw [hg]; exact (below_size hb_) : w.heap.size ≤ gb254)); clear HB; have HB := n0_; have BK254 := n1_; have GW254 := n2_; have GE254 := n3_; clear n0_ n1_ n2_ n3_; clear hb hbox hg))
  have n0_ := Aside0.mk (blk_drew BK254.out)
  have n1_ := Aside0.mk (below_drew1 HB.out)
  clear BK254
  clear HB
  have BK254 := n0_
  have HB := n1_
  clear n0_ n1_
  refine start_ (n := 10) (S := fun w' => w'.cell? ⟨gb254, 0, none⟩ = some (.int .i64 a0_0) ∧ w'.cell? ⟨gb254, 1, none⟩ = some (.slice A0_1 l0_1.length c0_1) ∧ w'.cell? ⟨gb254, 2, none⟩ = some (.int .i64 a0_2) ∧ w'.cell? ⟨gb254, 3, none⟩ = some (.int .i64 a0_3) ∧ w'.cell? ⟨gb254, 4, none⟩ = some (.slice A0_4 l0_4.length c0_4) ∧ w'.cell? ⟨gb254, 5, none⟩ = some (.slice A0_5 l0_5.length c0_5)) (ds := []) #[false, false, false, false, false, false, false, false, false, false] (by kernel_rfl) rfl rfl ⟨(blk_cell BK254.out 0).trans rfl, (blk_cell BK254.out 1).trans rfl, (blk_cell BK254.out 2).trans rfl, (blk_cell BK254.out 3).trans rfl, (blk_cell BK254.out 4).trans rfl, (blk_cell BK254.out 5).trans rfl⟩ (fun hHeld => ?_); refine with_tabW hopmeshref31_Good.tab1 hopmeshref31_Good.bits1 (fun HT_ HW_ => ?_)
  generalize w33.drew = w34 at BK254 HB hHeld ⊢
  refine pu_ HT_ 1 10 (bl 10 2) ?_
  refine pu_ HT_ 2 11 (bl 10 6) ?_
  refine pu_ HT_ 5 14 (bl 10 38) ?_
  refine pu_ HT_ 6 15 (bl 10 102) ?_
  refine tk_ HT_ HW_ hHeld 0 9 (bl 10 103) ?_
  refine tk_ HT_ HW_ hHeld 4 13 (bl 10 119) ?_
  refine one_ (i := 3) (N := some 12) (bl 10 127) rfl rfl (one_of HT_.out (by kernel_rfl)) (by decide) (fun K hK => ?_)
  refine goes_ Try.func77 (by kernel_rfl) rfl #[.agg #[.int .i64 a0_0, .slice A0_1 l0_1.length c0_1, .int .i64 a0_2, .int .i64 a0_3, .slice A0_4 l0_4.length c0_4, .slice A0_5 l0_5.length c0_5], .int .i64 a1, .int .i64 a2] (by rfl) rfl rfl am_ ?_
  with_reducible refine (hopmeshref31_Find.calls k a0_0 _ _ l0_1 a0_2 a0_3 _ _ l0_4 _ _ l0_5 a1 a2 t255 _ ?side1 ?side2 ?side3 ?side4 ?side5 ?side6 A4.out).mono ?_
  (case side1 | side3 | side5 => exact cb_)
  (case side2 | side4 | side6 => first | exact HC0_1.out | exact HC0_4.out | exact HC0_5.out)
  rintro e w35 ⟨rfl, hb⟩
  refine ⟨_, rfl, ?_⟩
  have n0_ := bk_ BK254 hb
  have n1_ := Aside0.mk (below_step hb_ hb)
  clear BK254
  clear HB
  have BK254 := n0_
  have HB := n1_
  clear n0_ n1_
  (try clear hb)
  (try clear hb2)
  (try clear hk)
  (try clear hi)
  refine hK.out _ _ ⟨(blk_cell BK254.out 0).trans rfl, (blk_cell BK254.out 1).trans rfl, (blk_cell BK254.out 2).trans rfl, (blk_cell BK254.out 3).trans rfl, (blk_cell BK254.out 4).trans rfl, (blk_cell BK254.out 5).trans rfl⟩ (fun hHeld => ?_)
  clear hK K
  refine norm_ (a' := ?_) ?_ ?_
  rotate_left
  ·
   show Act.put _ (some 12) _ = _
   simp only [ap_, s0_, s1_, i64_w]
   rfl
  refine one_ (i := 7) (N := some 16) (bl 10 255) rfl rfl (one_of HT_.out (by kernel_rfl)) (by decide) (fun K hK => ?_)
  refine goes_ Try.func77 (by kernel_rfl) rfl #[.agg #[.int .i64 a0_0, .slice A0_1 l0_1.length c0_1, .int .i64 a0_2, .int .i64 a0_3, .slice A0_4 l0_4.length c0_4, .slice A0_5 l0_5.length c0_5], .int .i64 a2, .int .i64 a1] (by rfl) rfl rfl am_ ?_
  with_reducible refine (hopmeshref31_Find.calls k a0_0 _ _ l0_1 a0_2 a0_3 _ _ l0_4 _ _ l0_5 a2 a1 t256 _ ?side1 ?side2 ?side3 ?side4 ?side5 ?side6 A5.out).mono ?_
  (case side1 | side3 | side5 => exact cb_)
  (case side2 | side4 | side6 => first | exact HC0_1.out | exact HC0_4.out | exact HC0_5.out)
  rintro e w36 ⟨rfl, hb⟩
  refine ⟨_, rfl, ?_⟩
  have n0_ := bk_ BK254 hb
  have n1_ := Aside0.mk (below_step hb_ hb)
  clear BK254
  clear HB
  have BK254 := n0_
  have HB := n1_
  clear n0_ n1_
  (try clear hb)
  (try clear hb2)
  (try clear hk)
  (try clear hi)
  refine hK.out _ _ ⟨(blk_cell BK254.out 0).trans rfl, (blk_cell BK254.out 1).trans rfl, (blk_cell BK254.out 2).trans rfl, (blk_cell BK254.out 3).trans rfl, (blk_cell BK254.out 4).trans rfl, (blk_cell BK254.out 5).trans rfl⟩ (fun hHeld => ?_)
  clear hK K
  refine norm_ (a' := ?_) ?_ ?_
  rotate_left
  ·
   show Act.put _ (some 16) _ = _
   simp only [ap_, s0_, s1_, i64_w]
   rfl
  refine pu_ HT_ 8 7 (bl 10 511) ?_
  refine pu_ HT_ 9 8 (bl 10 1023) ?_
  refine done_ (done_of HT_.out (by kernel_rfl)) ?_
  try go_wp2
  have n0_ := Aside0.mk (blk_drew BK254.out)
  have n1_ := Aside0.mk (below_drew1 HB.out)
  clear BK254
  clear HB
  have BK254 := n0_
  have HB := n1_
  clear n0_ n1_
  refine start_ (n := 25) (S := fun w' => True) (ds := []) #[false, false, false, false, false, false, false, false, false, false, false, false, false, false, false, false, false, false, false, false, false, false, false, false, false] (by kernel_rfl) rfl rfl trivial (fun hHeld => ?_); refine with_tabW hopmeshref31_Good.tab2 hopmeshref31_Good.bits2 (fun HT_ HW_ => ?_)
  generalize w36.drew = w37 at BK254 HB hHeld ⊢
  refine pu_ HT_ 0 17 (bl 25 1) ?_
  refine pu_ HT_ 1 18 (bl 25 3) ?_
  refine pu_ HT_ 2 19 (bl 25 7) ?_
  refine of_ HT_ 3 20 (bl 25 15) ?_
  refine of_ HT_ 4 21 (bl 25 31) ?_
  refine pu_ HT_ 5 22 (bl 25 63) ?_
  refine pu_ HT_ 6 23 (bl 25 127) ?_
  refine of_ HT_ 7 24 (bl 25 255) ?_
  refine of_ HT_ 8 25 (bl 25 511) ?_
  refine of_ HT_ 9 26 (bl 25 1023) ?_
  refine of_ HT_ 10 27 (bl 25 2047) ?_
  refine of_ HT_ 11 28 (bl 25 4095) ?_
  refine of_ HT_ 12 29 (bl 25 8191) ?_
  refine of_ HT_ 13 30 (bl 25 16383) ?_
  refine pu_ HT_ 14 31 (bl 25 32767) ?_
  refine pu_ HT_ 15 32 (bl 25 65535) ?_
  refine of_ HT_ 16 33 (bl 25 131071) ?_
  refine of_ HT_ 17 34 (bl 25 262143) ?_
  refine of_ HT_ 18 35 (bl 25 524287) ?_
  refine of_ HT_ 19 36 (bl 25 1048575) ?_
  refine of_ HT_ 20 37 (bl 25 2097151) ?_
  refine of_ HT_ 21 38 (bl 25 4194303) ?_
  refine of_ HT_ 22 39 (bl 25 8388607) ?_
  refine pu_ HT_ 23 40 (bl 25 16777215) ?_
  refine pu_ HT_ 24 6 (bl 25 33554431) ?_
  refine done_ (done_of HT_.out (by kernel_rfl)) ?_
  try go_wp2
  go_ret
  exact ⟨er_, hb_⟩

/-! ### hopmeshref34_power: function 75 -/
def hopmeshref34_power.f (a0_0 : Int) (l0_1 : List (List Int)) (a0_2 : Int) (a0_3 : Int) (l0_4 : List (S44)) (l0_5 : List Int) (a1 : Int) (a2 : Int) : Option (Int) := (hopmeshref34_node.f a0_0 l0_1 a0_2 a0_3 l0_4 l0_5 a1).bind fun t262 => (if t262 = true then ((hopmeshref34_node.f a0_0 l0_1 a0_2 a0_3 l0_4 l0_5 a2).bind fun t263 => (if t263 = true then (if 0 ≤ a1 then (if a1 < (l0_1.length : Int) then (if 0 ≤ a2 then (if a2 < ((rd_L1 l0_1 a1).length : Int) then (some (rd (rd_L1 l0_1 a1) a2)) else (none)) else (none)) else (none)) else (none)) else (some 0))) else (some 0))
set_option maxHeartbeats 8000000 in
set_option maxRecDepth 100000 in
theorem hopmeshref34_power.calls (a0_0 : Int) (A0_1 : Option Addr) (c0_1 : Nat) (l0_1 : List (List Int)) (a0_2 : Int) (a0_3 : Int) (A0_4 : Option Addr) (c0_4 : Nat) (l0_4 : List (S44)) (A0_5 : Option Addr) (c0_5 : Nat) (l0_5 : List Int) (a1 : Int) (a2 : Int) (r : Int) (w : World) (hr0_1 : Kd.C (Kd.slice 3 (Kd.int .i64)) w A0_1 l0_1.length l0_1) (hc0_1 : l0_1.length ≤ c0_1) (hr0_4 : Kd.C k44 w A0_4 l0_4.length l0_4) (hc0_4 : l0_4.length ≤ c0_4) (hr0_5 : Kd.C (Kd.int .i64) w A0_5 l0_5.length l0_5) (hc0_5 : l0_5.length ≤ c0_5) (h : hopmeshref34_power.f a0_0 l0_1 a0_2 a0_3 l0_4 l0_5 a1 a2 = some r) :
  Calls Try.prog 75 #[.agg #[.int .i64 a0_0, .slice A0_1 l0_1.length c0_1, .int .i64 a0_2, .int .i64 a0_3, .slice A0_4 l0_4.length c0_4, .slice A0_5 l0_5.length c0_5], .int .i64 a1, .int .i64 a2] w fun e w' => e = .returned (.int .i64 r) ∧ Below w.heap.size w w' := by
 have hu26 := Try.underlying26
 have HR0_1 := Aside0.mk hr0_1
 have HC0_1 := Aside0.mk hc0_1
 clear hr0_1 hc0_1
 have HR0_4 := Aside0.mk hr0_4
 have HC0_4 := Aside0.mk hc0_4
 clear hr0_4 hc0_4
 have HR0_5 := Aside0.mk hr0_5
 have HC0_5 := Aside0.mk hc0_5
 clear hr0_5 hc0_5
 have HB := Aside0.mk (Below.refl w.heap.size w)
 have H : ((hopmeshref34_node.f a0_0 l0_1 a0_2 a0_3 l0_4 l0_5 a1).bind fun t262 => (if t262 = true then ((hopmeshref34_node.f a0_0 l0_1 a0_2 a0_3 l0_4 l0_5 a2).bind fun t263 => (if t263 = true then (if 0 ≤ a1 then (if a1 < (l0_1.length : Int) then (if 0 ≤ a2 then (if a2 < ((rd_L1 l0_1 a1).length : Int) then (some (rd (rd_L1 l0_1 a1) a2)) else (none)) else (none)) else (none)) else (none)) else (some 0))) else (some 0))) = some r := h
 clear h
 replace H := Option.bind_eq_some_iff.mp H
 obtain ⟨t262, A40, H⟩ := H
 replace H : (if t262 = true then ((hopmeshref34_node.f a0_0 l0_1 a0_2 a0_3 l0_4 l0_5 a2).bind fun t263 => (if t263 = true then (if 0 ≤ a1 then (if a1 < (l0_1.length : Int) then (if 0 ≤ a2 then (if a2 < ((rd_L1 l0_1 a1).length : Int) then (some (rd (rd_L1 l0_1 a1) a2)) else (none)) else (none)) else (none)) else (none)) else (some 0))) else (some 0)) = some r := H
 have A4 := Aside0.mk A40
 clear A40
 by_cases c5 : t262 = true
 ·
  subst c5
  have H1 : ((hopmeshref34_node.f a0_0 l0_1 a0_2 a0_3 l0_4 l0_5 a2).bind fun t263 => (if t263 = true then (if 0 ≤ a1 then (if a1 < (l0_1.length : Int) then (if 0 ≤ a2 then (if a2 < ((rd_L1 l0_1 a1).length : Int) then (some (rd (rd_L1 l0_1 a1) a2)) else (none)) else (none)) else (none)) else (none)) else (some 0))) = some r := by rw [if_pos rfl] at H; exact H
  clear H
  have H := H1
  clear H1
  replace H := Option.bind_eq_some_iff.mp H
  obtain ⟨t263, A60, H⟩ := H
  replace H : (if t263 = true then (if 0 ≤ a1 then (if a1 < (l0_1.length : Int) then (if 0 ≤ a2 then (if a2 < ((rd_L1 l0_1 a1).length : Int) then (some (rd (rd_L1 l0_1 a1) a2)) else (none)) else (none)) else (none)) else (none)) else (some 0)) = some r := H
  have A6 := Aside0.mk A60
  clear A60
  by_cases c7 : t263 = true
  ·
   subst c7
   have H1 : (if 0 ≤ a1 then (if a1 < (l0_1.length : Int) then (if 0 ≤ a2 then (if a2 < ((rd_L1 l0_1 a1).length : Int) then (some (rd (rd_L1 l0_1 a1) a2)) else (none)) else (none)) else (none)) else (none)) = some r := by rw [if_pos rfl] at H; exact H
   clear H
   have H := H1
   clear H1
   by_cases c8 : 0 ≤ a1
   ·
    rw [if_pos c8] at H
    have c8b0 : decide (0 ≤ a1) = true := decide_eq_true c8
    clear c8
    by_cases c9 : a1 < (l0_1.length : Int)
    ·
     rw [if_pos c9] at H
     have c9b0 : decide (a1 < (l0_1.length : Int)) = true := decide_eq_true c9
     clear c9
     by_cases c10 : 0 ≤ a2
     ·
      rw [if_pos c10] at H
      have c10b0 : decide (0 ≤ a2) = true := decide_eq_true c10
      clear c10
      by_cases c11 : a2 < ((rd_L1 l0_1 a1).length : Int)
      ·
       rw [if_pos c11] at H
       have c11b0 : decide (a2 < ((rd_L1 l0_1 a1).length : Int)) = true := decide_eq_true c11
       clear c11
       obtain rfl := Option.some.inj H
       go_enter Try.func75, Try.ntmps75
       go_wp2_with (first | ((with_reducible refine gate_dst (N := 3) rfl ?_); refine bx_ 3 #[.int .i64 a0_0, .slice A0_1 l0_1.length c0_1, .int .i64 a0_2, .int .i64 a0_3, .slice A0_4 l0_4.length c0_4, .slice A0_5 l0_5.length c0_5] 26 ?_; intro gb261 hg w12 hbox hb; have n0_ := Aside0.mk (below_step hb_ hb); have n1_ := Aside0.mk (hbox); have n2_ := Aside0.mk ((by rw [hg]; exact (below_size hb_) : w.heap.size ≤ gb261)); have n3_ := Aside0.mk ((by rw [hg]; exact (below_size hb_) : w.heap.size ≤ gb261)); clear HB; have HB := n0_; have BK261 := n1_; have GW261 := n2_; have GE261 := n3_; clear n0_ n1_ n2_ n3_; clear hb hbox hg; have hcz13_0 := bc0 BK261; have hcz13_1 := bc1 BK261; have hcz13_2 := bc2 BK261; have hcz13_3 := bc3 BK261; have hcz13_4 := bc4 BK261; have hcz13_5 := bc5 BK261; have hfz13_0 := blk_frozen BK261.out 0; have hfz13_1 := blk_frozen BK261.out 1; have hfz13_2 := blk_frozen BK261.out 2; have hfz13_3 := blk_frozen BK261.out 3; have hfz13_4 := blk_frozen BK261.out 4; have hfz13_5 := blk_frozen BK261.out 5) | ((with_reducible refine gate_callee (f := 41) rfl ?_); refine goesL_ (some 9) rfl rfl Try.func41 (by kernel_rfl) rfl #[.agg #[.int .i64 a0_0, .slice A0_1 l0_1.length c0_1, .int .i64 a0_2, .int .i64 a0_3, .slice A0_4 l0_4.length c0_4, .slice A0_5 l0_5.length c0_5], .int .i64 a1] rfl am_ ?_; (with_reducible refine (hopmeshref34_node.calls a0_0 _ _ l0_1 a0_2 a0_3 _ _ l0_4 _ _ l0_5 a1 true _ ?side1 ?side2 ?side3 ?side4 ?side5 ?side6 A4.out).mono ?_); (case side1 | side3 | side5 => exact cb_); (case side2 | side4 | side6 => first | exact HC0_1.out | exact HC0_4.out | exact HC0_5.out); rintro e w14 ⟨rfl, hb⟩; refine ⟨_, rfl, ?_⟩; have n0_ := bk_ BK261 hb; have n1_ := Aside0.mk (below_step hb_ hb); clear BK261; clear HB; have BK261 := n0_; have HB := n1_; clear n0_ n1_; (try clear hb); (try clear hb2); (try clear hk); (try clear hi); have hcz15_0 := bc0 BK261; have hcz15_1 := bc1 BK261; have hcz15_2 := bc2 BK261; have hcz15_3 := bc3 BK261; have hcz15_4 := bc4 BK261; have hcz15_5 := bc5 BK261; have hfz15_0 := blk_frozen BK261.out 0; have hfz15_1 := blk_frozen BK261.out 1; have hfz15_2 := blk_frozen BK261.out 2; have hfz15_3 := blk_frozen BK261.out 3; have hfz15_4 := blk_frozen BK261.out 4; have hfz15_5 := blk_frozen BK261.out 5) | (go_at_call 41; (with_reducible refine (hopmeshref34_node.calls a0_0 _ _ l0_1 a0_2 a0_3 _ _ l0_4 _ _ l0_5 a2 true _ ?side1 ?side2 ?side3 ?side4 ?side5 ?side6 A6.out).mono ?_); (case side1 | side3 | side5 => exact cb_); (case side2 | side4 | side6 => first | exact HC0_1.out | exact HC0_4.out | exact HC0_5.out); rintro e w16 ⟨rfl, hb⟩; have n0_ := bk_ BK261 hb; have n1_ := Aside0.mk (below_step hb_ hb); clear BK261; clear HB; have BK261 := n0_; have HB := n1_; clear n0_ n1_; (try clear hb); (try clear hb2); (try clear hk); (try clear hi); have hcz17_0 := bc0 BK261; have hcz17_1 := bc1 BK261; have hcz17_2 := bc2 BK261; have hcz17_3 := bc3 BK261; have hcz17_4 := bc4 BK261; have hcz17_5 := bc5 BK261; have hfz17_0 := blk_frozen BK261.out 0; have hfz17_1 := blk_frozen BK261.out 1; have hfz17_2 := blk_frozen BK261.out 2; have hfz17_3 := blk_frozen BK261.out 3; have hfz17_4 := blk_frozen BK261.out 4; have hfz17_5 := blk_frozen BK261.out 5; have p264 : 0 ≤ (a1 : Int) := of_decide_eq_true (by assumption); have q264 : a1 < (l0_1.length : Int) := of_decide_eq_true (by assumption); obtain ⟨ad264, A264_0, c264_0, e264, hx264_0, hl264_0, hi264_0⟩ := at_L1 HR0_1.out a1 p264 q264; cases e264; replace hx264_0 := (HB.out.cell (World.block_lt_of_cell? w _ hx264_0)).trans hx264_0; have HR264_0 := Aside0.mk hi264_0; have HC264_0 := Aside0.mk hl264_0; clear hi264_0 hl264_0; replace p264 := eq_true p264; replace q264 := eq_true q264; have p265 : 0 ≤ (a2 : Int) := of_decide_eq_true (by assumption); have q265 : a2 < ((rd_L1 l0_1 a1).length : Int) := of_decide_eq_true (by assumption); obtain ⟨ad265, e265, hx265_0⟩ := Kd.at_int HR264_0.out a2 p265 q265; cases e265; replace hx265_0 := (HB.out.cell (World.block_lt_of_cell? w _ hx265_0)).trans hx265_0; replace p265 := eq_true p265; replace q265 := eq_true q265))
       go_ret
       exact ⟨er_, hb_⟩
      ·
       rw [if_neg c11] at H
       exact absurd H (by simp)
     ·
      rw [if_neg c10] at H
      exact absurd H (by simp)
    ·
     rw [if_neg c9] at H
     exact absurd H (by simp)
   ·
    rw [if_neg c8] at H
    exact absurd H (by simp)
  ·
   replace c7 := Bool.eq_false_iff.mpr c7
   subst c7
   have H1 : (some 0) = some r := by rw [if_neg (show ¬ (false = true) by decide)] at H; exact H
   clear H
   have H := H1
   clear H1
   obtain rfl := Option.some.inj H
   go_enter Try.func75, Try.ntmps75
   go_wp2_with (first | ((with_reducible refine gate_dst (N := 3) rfl ?_); refine bx_ 3 #[.int .i64 a0_0, .slice A0_1 l0_1.length c0_1, .int .i64 a0_2, .int .i64 a0_3, .slice A0_4 l0_4.length c0_4, .slice A0_5 l0_5.length c0_5] 26 ?_; intro gb261 hg w18 hbox hb; have n0_ := Aside0.mk (below_step hb_ hb); have n1_ := Aside0.mk (hbox); have n2_ := Aside0.mk ((by rw [hg]; exact (below_size hb_) : w.heap.size ≤ gb261)); have n3_ := Aside0.mk ((by rw [hg]; exact (below_size hb_) : w.heap.size ≤ gb261)); clear HB; have HB := n0_; have BK261 := n1_; have GW261 := n2_; have GE261 := n3_; clear n0_ n1_ n2_ n3_; clear hb hbox hg; have hcz19_0 := bc0 BK261; have hcz19_1 := bc1 BK261; have hcz19_2 := bc2 BK261; have hcz19_3 := bc3 BK261; have hcz19_4 := bc4 BK261; have hcz19_5 := bc5 BK261; have hfz19_0 := blk_frozen BK261.out 0; have hfz19_1 := blk_frozen BK261.out 1; have hfz19_2 := blk_frozen BK261.out 2; have hfz19_3 := blk_frozen BK261.out 3; have hfz19_4 := blk_frozen BK261.out 4; have hfz19_5 := blk_frozen BK261.out 5) | ((with_reducible refine gate_callee (f := 41) rfl ?_); refine goesL_ (some 9) rfl rfl Try.func41 (by kernel_rfl) rfl #[.agg #[.int .i64 a0_0, .slice A0_1 l0_1.length c0_1, .int .i64 a0_2, .int .i64 a0_3, .slice A0_4 l0_4.length c0_4, .slice A0_5 l0_5.length c0_5], .int .i64 a1] rfl am_ ?_; (with_reducible refine (hopmeshref34_node.calls a0_0 _ _ l0_1 a0_2 a0_3 _ _ l0_4 _ _ l0_5 a1 true _ ?side1 ?side2 ?side3 ?side4 ?side5 ?side6 A4.out).mono ?_); (case side1 | side3 | side5 => exact cb_); (case side2 | side4 | side6 => first | exact HC0_1.out | exact HC0_4.out | exact HC0_5.out); rintro e w20 ⟨rfl, hb⟩; refine ⟨_, rfl, ?_⟩; have n0_ := bk_ BK261 hb; have n1_ := Aside0.mk (below_step hb_ hb); clear BK261; clear HB; have BK261 := n0_; have HB := n1_; clear n0_ n1_; (try clear hb); (try clear hb2); (try clear hk); (try clear hi); have hcz21_0 := bc0 BK261; have hcz21_1 := bc1 BK261; have hcz21_2 := bc2 BK261; have hcz21_3 := bc3 BK261; have hcz21_4 := bc4 BK261; have hcz21_5 := bc5 BK261; have hfz21_0 := blk_frozen BK261.out 0; have hfz21_1 := blk_frozen BK261.out 1; have hfz21_2 := blk_frozen BK261.out 2; have hfz21_3 := blk_frozen BK261.out 3; have hfz21_4 := blk_frozen BK261.out 4; have hfz21_5 := blk_frozen BK261.out 5) | (go_at_call 41; (with_reducible refine (hopmeshref34_node.calls a0_0 _ _ l0_1 a0_2 a0_3 _ _ l0_4 _ _ l0_5 a2 false _ ?side1 ?side2 ?side3 ?side4 ?side5 ?side6 A6.out).mono ?_); (case side1 | side3 | side5 => exact cb_); (case side2 | side4 | side6 => first | exact HC0_1.out | exact HC0_4.out | exact HC0_5.out); rintro e w22 ⟨rfl, hb⟩; have n0_ := bk_ BK261 hb; have n1_ := Aside0.mk (below_step hb_ hb); clear BK261; clear HB; have BK261 := n0_; have HB := n1_; clear n0_ n1_; (try clear hb); (try clear hb2); (try clear hk); (try clear hi)))
   go_ret
   exact ⟨er_, hb_⟩
 ·
  replace c5 := Bool.eq_false_iff.mpr c5
  subst c5
  have H1 : (some 0) = some r := by rw [if_neg (show ¬ (false = true) by decide)] at H; exact H
  clear H
  have H := H1
  clear H1
  obtain rfl := Option.some.inj H
  go_enter Try.func75, Try.ntmps75
  go_wp2_with (first | ((with_reducible refine gate_dst (N := 3) rfl ?_); refine bx_ 3 #[.int .i64 a0_0, .slice A0_1 l0_1.length c0_1, .int .i64 a0_2, .int .i64 a0_3, .slice A0_4 l0_4.length c0_4, .slice A0_5 l0_5.length c0_5] 26 ?_; intro gb261 hg w23 hbox hb; have n0_ := Aside0.mk (below_step hb_ hb); have n1_ := Aside0.mk (hbox); have n2_ := Aside0.mk ((by rw [hg]; exact (below_size hb_) : w.heap.size ≤ gb261)); have n3_ := Aside0.mk ((by rw [hg]; exact (below_size hb_) : w.heap.size ≤ gb261)); clear HB; have HB := n0_; have BK261 := n1_; have GW261 := n2_; have GE261 := n3_; clear n0_ n1_ n2_ n3_; clear hb hbox hg; have hcz24_0 := bc0 BK261; have hcz24_1 := bc1 BK261; have hcz24_2 := bc2 BK261; have hcz24_3 := bc3 BK261; have hcz24_4 := bc4 BK261; have hcz24_5 := bc5 BK261; have hfz24_0 := blk_frozen BK261.out 0; have hfz24_1 := blk_frozen BK261.out 1; have hfz24_2 := blk_frozen BK261.out 2; have hfz24_3 := blk_frozen BK261.out 3; have hfz24_4 := blk_frozen BK261.out 4; have hfz24_5 := blk_frozen BK261.out 5) | ((with_reducible refine gate_callee (f := 41) rfl ?_); refine goesL_ (some 9) rfl rfl Try.func41 (by kernel_rfl) rfl #[.agg #[.int .i64 a0_0, .slice A0_1 l0_1.length c0_1, .int .i64 a0_2, .int .i64 a0_3, .slice A0_4 l0_4.length c0_4, .slice A0_5 l0_5.length c0_5], .int .i64 a1] rfl am_ ?_; (with_reducible refine (hopmeshref34_node.calls a0_0 _ _ l0_1 a0_2 a0_3 _ _ l0_4 _ _ l0_5 a1 false _ ?side1 ?side2 ?side3 ?side4 ?side5 ?side6 A4.out).mono ?_); (case side1 | side3 | side5 => exact cb_); (case side2 | side4 | side6 => first | exact HC0_1.out | exact HC0_4.out | exact HC0_5.out); rintro e w25 ⟨rfl, hb⟩; refine ⟨_, rfl, ?_⟩; have n0_ := bk_ BK261 hb; have n1_ := Aside0.mk (below_step hb_ hb); clear BK261; clear HB; have BK261 := n0_; have HB := n1_; clear n0_ n1_; (try clear hb); (try clear hb2); (try clear hk); (try clear hi)))
  go_ret
  exact ⟨er_, hb_⟩

end Go.Proofs.Ytibgcekekmphoaa.P34
