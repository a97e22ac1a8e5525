-- Written by a program of this session (wip/tools) over the kit's print; Lean checks it.
import Derived.Test.YtibgcekekmphoaaP340
import Derived.Test.YtibgcekekmphoaaP34A
import Derived.Test.YtibgcekekmphoaaP34Pr
import Derived.Test.YtibgcekekmphoaaP34Eq
import Derived.Test.YtibgcekekmphoaaP34Ea
import Derived.Test.YtibgcekekmphoaaP34Lr
import Derived.Test.YtibgcekekmphoaaGawake
import Derived.Test.YtibgcekekmphoaaGlargest
import Derived.Test.YtibgcekekmphoaaGpairs
namespace Go.Proofs.Ytibgcekekmphoaa.P34
open Go.RowKit Go.Proofs.YtibgcekekmphoaaW.PrintWords Go.Proofs.YtibgcekekmphoaaW.PrintLast Go.Proofs.YtibgcekekmphoaaW.PrintMore
attribute [local go_sem] max2_int min2_int max_two min_two max_three min_three max_four min_four   -- for this text's walks alone
set_option linter.unusedVariables false
set_option linter.unusedSimpArgs false

/-! ### hopmeshlaw34_ConflictSets: function 10 -/
def hopmeshlaw34_ConflictSets.j0 : Nat → List (S44) → Bool → Int → List (List Int) → Int → Int → List (S44) → List Int → Option (Bool)
 | 0, _, _, _, _, _, _, _, _ => none
 | k + 1, x1, x32, x484000, x484001, x484002, x484003, x484004, x484005 => if x32 = true then (some true) else ((conflict_Largest.f k x484000 x484001 x484002 x484003 x484004 x484005 x1).bind fun bt486 => ((hopmeshref34_Largest.f k x484000 x484001 x484002 x484003 x484004 x484005 x1).bind fun bt490 => ((conflict_Pairs.f k x484000 x484001 x484002 x484003 x484004 x484005 x1).bind fun bt494 => ((hopmeshref34_Pairs.f k x484000 x484001 x484002 x484003 x484004 x484005 x1).bind fun bt498 => (if bt486.2 = bt490.2 then ((slices_Equal_int_int.f k bt486.1 bt490.1).bind fun t502 => (if t502 = true then (if bt494.2 = bt498.2 then ((slices_Equal_2_int_2_int.f k bt494.1 bt498.1).bind fun t503 => (some t503)) else (some false)) else (some false))) else (some false))))))
def hopmeshlaw34_ConflictSets.f (k : Nat) (a0_0 : Int) (l0_1 : List (List Int)) (a0_2 : Int) (a0_3 : Int) (l0_4 : List (S44)) (l0_5 : List Int) (l1 : List (S44)) : Option (Bool) := (hopmeshlaw34_awake.f).bind fun t484 => (if t484 = true then ((hopmeshref31_Few.f k a0_0 l0_1 a0_2 a0_3 l0_4 l0_5).bind fun t485 => (if t485 = true then (if (l1.length : Int) > 9 then (if (l1.length : Int) = 13 then (hopmeshlaw34_ConflictSets.j0 k l1 false a0_0 l0_1 a0_2 a0_3 l0_4 l0_5) else (hopmeshlaw34_ConflictSets.j0 k l1 ((l1.length : Int) != 46) a0_0 l0_1 a0_2 a0_3 l0_4 l0_5)) else (hopmeshlaw34_ConflictSets.j0 k l1 false a0_0 l0_1 a0_2 a0_3 l0_4 l0_5)) else (hopmeshlaw34_ConflictSets.j0 k l1 true a0_0 l0_1 a0_2 a0_3 l0_4 l0_5))) else (some false))
theorem hopmeshlaw34_ConflictSets.mono_l : ∀ k, (∀ y0 y1 y2 y3 y4 y5 y6 y7, LeO (hopmeshlaw34_ConflictSets.j0 k y0 y1 y2 y3 y4 y5 y6 y7) (hopmeshlaw34_ConflictSets.j0 (k + 1) y0 y1 y2 y3 y4 y5 y6 y7))
 | 0 => fun _ _ _ _ _ _ _ _ r h => by simp [hopmeshlaw34_ConflictSets.j0] at h
 | k + 1 => by
  have ih0 := hopmeshlaw34_ConflictSets.mono_l k
  ·
   intro y0 y1 y2 y3 y4 y5 y6 y7
   unfold hopmeshlaw34_ConflictSets.j0
   repeat' first
   | (with_reducible exact ih0 _ _ _ _ _ _ _ _)
   | (with_reducible exact conflict_Largest.mono _ _ _ _ _ _ _ _)
   | (with_reducible exact conflict_Pairs.mono _ _ _ _ _ _ _ _)
   | (with_reducible exact hopmeshref31_Few.mono _ _ _ _ _ _ _)
   | (with_reducible exact hopmeshref34_Largest.mono _ _ _ _ _ _ _ _)
   | (with_reducible exact hopmeshref34_Pairs.mono _ _ _ _ _ _ _ _)
   | (with_reducible exact slices_Equal_2_int_2_int.mono _ _ _)
   | (with_reducible exact slices_Equal_int_int.mono _ _ _)
   | (with_reducible exact LeO.refl _)
   | (with_reducible exact LeO.none _)
   | (with_reducible refine LeO.ite ?_ ?_)
   | (with_reducible refine LeO.bind ?_ (fun _ => ?_))
   | exact ih0 _ _ _ _ _ _ _ _
   | exact conflict_Largest.mono _ _ _ _ _ _ _ _
   | exact conflict_Pairs.mono _ _ _ _ _ _ _ _
   | exact hopmeshref31_Few.mono _ _ _ _ _ _ _
   | exact hopmeshref34_Largest.mono _ _ _ _ _ _ _ _
   | exact hopmeshref34_Pairs.mono _ _ _ _ _ _ _ _
   | exact slices_Equal_2_int_2_int.mono _ _ _
   | exact slices_Equal_int_int.mono _ _ _
   | exact LeO.none _
   | refine LeO.ite ?_ ?_
   | refine LeO.bind ?_ (fun _ => ?_)
theorem hopmeshlaw34_ConflictSets.mono : ∀ a0 a1 a2 a3 a4 a5 a6 k, LeO (hopmeshlaw34_ConflictSets.f k a0 a1 a2 a3 a4 a5 a6) (hopmeshlaw34_ConflictSets.f (k + 1) a0 a1 a2 a3 a4 a5 a6) := by
 intro a0 a1 a2 a3 a4 a5 a6 k
 have ih0 := hopmeshlaw34_ConflictSets.mono_l k
 unfold hopmeshlaw34_ConflictSets.f
 repeat' first
   | (with_reducible exact ih0 _ _ _ _ _ _ _ _)
   | (with_reducible exact conflict_Largest.mono _ _ _ _ _ _ _ _)
   | (with_reducible exact conflict_Pairs.mono _ _ _ _ _ _ _ _)
   | (with_reducible exact hopmeshref31_Few.mono _ _ _ _ _ _ _)
   | (with_reducible exact hopmeshref34_Largest.mono _ _ _ _ _ _ _ _)
   | (with_reducible exact hopmeshref34_Pairs.mono _ _ _ _ _ _ _ _)
   | (with_reducible exact slices_Equal_2_int_2_int.mono _ _ _)
   | (with_reducible exact slices_Equal_int_int.mono _ _ _)
   | (with_reducible exact LeO.refl _)
   | (with_reducible exact LeO.none _)
   | (with_reducible refine LeO.ite ?_ ?_)
   | (with_reducible refine LeO.bind ?_ (fun _ => ?_))
   | exact ih0 _ _ _ _ _ _ _ _
   | exact conflict_Largest.mono _ _ _ _ _ _ _ _
   | exact conflict_Pairs.mono _ _ _ _ _ _ _ _
   | exact hopmeshref31_Few.mono _ _ _ _ _ _ _
   | exact hopmeshref34_Largest.mono _ _ _ _ _ _ _ _
   | exact hopmeshref34_Pairs.mono _ _ _ _ _ _ _ _
   | exact slices_Equal_2_int_2_int.mono _ _ _
   | exact slices_Equal_int_int.mono _ _ _
   | exact LeO.none _
   | refine LeO.ite ?_ ?_
   | refine LeO.bind ?_ (fun _ => ?_)
set_option maxHeartbeats 8000000 in
set_option maxRecDepth 100000 in
theorem hopmeshlaw34_ConflictSets.calls (k : Nat) (a0_0 : Int) (A0_1 : Option Addr) (c0_1 : Nat) (l0_1 : List (List Int)) (a0_2 : Int) (a0_3 : Int) (A0_4 : Option Addr) (c0_4 : Nat) (l0_4 : List (S44)) (A0_5 : Option Addr) (c0_5 : Nat) (l0_5 : List Int) (A1 : Option Addr) (c1 : Nat) (l1 : List (S44)) (r : Bool) (w : World) (hr0_1 : Kd.C (Kd.slice 3 (Kd.int .i64)) w A0_1 l0_1.length l0_1) (hc0_1 : l0_1.length ≤ c0_1) (hr0_4 : Kd.C k44 w A0_4 l0_4.length l0_4) (hc0_4 : l0_4.length ≤ c0_4) (hr0_5 : Kd.C (Kd.int .i64) w A0_5 l0_5.length l0_5) (hc0_5 : l0_5.length ≤ c0_5) (hr1 : Kd.C k44 w A1 l1.length l1) (hc1 : l1.length ≤ c1) (h : hopmeshlaw34_ConflictSets.f k a0_0 l0_1 a0_2 a0_3 l0_4 l0_5 l1 = some r) :
  Calls Try.prog 10 #[.agg #[.int .i64 a0_0, .slice A0_1 l0_1.length c0_1, .int .i64 a0_2, .int .i64 a0_3, .slice A0_4 l0_4.length c0_4, .slice A0_5 l0_5.length c0_5], .slice A1 l1.length c1] w fun e w' => e = .returned (.bool r) ∧ Below w.heap.size w w' := by
 have hu26 := Try.underlying26
 have HR0_1 := Aside0.mk hr0_1
 have HC0_1 := Aside0.mk hc0_1
 clear hr0_1 hc0_1
 have HR0_4 := Aside0.mk hr0_4
 have HC0_4 := Aside0.mk hc0_4
 clear hr0_4 hc0_4
 have HR0_5 := Aside0.mk hr0_5
 have HC0_5 := Aside0.mk hc0_5
 clear hr0_5 hc0_5
 have HR1 := Aside0.mk hr1
 have HC1 := Aside0.mk hc1
 clear hr1 hc1
 have HB := Aside0.mk (Below.refl w.heap.size w)
 have H : ((hopmeshlaw34_awake.f).bind fun t484 => (if t484 = true then ((hopmeshref31_Few.f k a0_0 l0_1 a0_2 a0_3 l0_4 l0_5).bind fun t485 => (if t485 = true then (if (l1.length : Int) > 9 then (if (l1.length : Int) = 13 then (hopmeshlaw34_ConflictSets.j0 k l1 false a0_0 l0_1 a0_2 a0_3 l0_4 l0_5) else (hopmeshlaw34_ConflictSets.j0 k l1 ((l1.length : Int) != 46) a0_0 l0_1 a0_2 a0_3 l0_4 l0_5)) else (hopmeshlaw34_ConflictSets.j0 k l1 false a0_0 l0_1 a0_2 a0_3 l0_4 l0_5)) else (hopmeshlaw34_ConflictSets.j0 k l1 true a0_0 l0_1 a0_2 a0_3 l0_4 l0_5))) else (some false))) = some r := h
 clear h
 replace H := Option.bind_eq_some_iff.mp H
 obtain ⟨t484, A30, H⟩ := H
 replace H : (if t484 = true then ((hopmeshref31_Few.f k a0_0 l0_1 a0_2 a0_3 l0_4 l0_5).bind fun t485 => (if t485 = true then (if (l1.length : Int) > 9 then (if (l1.length : Int) = 13 then (hopmeshlaw34_ConflictSets.j0 k l1 false a0_0 l0_1 a0_2 a0_3 l0_4 l0_5) else (hopmeshlaw34_ConflictSets.j0 k l1 ((l1.length : Int) != 46) a0_0 l0_1 a0_2 a0_3 l0_4 l0_5)) else (hopmeshlaw34_ConflictSets.j0 k l1 false a0_0 l0_1 a0_2 a0_3 l0_4 l0_5)) else (hopmeshlaw34_ConflictSets.j0 k l1 true a0_0 l0_1 a0_2 a0_3 l0_4 l0_5))) else (some false)) = some r := H
 have A3 := Aside0.mk A30
 clear A30
 by_cases c4 : t484 = true
 ·
  subst c4
  have H1 : ((hopmeshref31_Few.f k a0_0 l0_1 a0_2 a0_3 l0_4 l0_5).bind fun t485 => (if t485 = true then (if (l1.length : Int) > 9 then (if (l1.length : Int) = 13 then (hopmeshlaw34_ConflictSets.j0 k l1 false a0_0 l0_1 a0_2 a0_3 l0_4 l0_5) else (hopmeshlaw34_ConflictSets.j0 k l1 ((l1.length : Int) != 46) a0_0 l0_1 a0_2 a0_3 l0_4 l0_5)) else (hopmeshlaw34_ConflictSets.j0 k l1 false a0_0 l0_1 a0_2 a0_3 l0_4 l0_5)) else (hopmeshlaw34_ConflictSets.j0 k l1 true a0_0 l0_1 a0_2 a0_3 l0_4 l0_5))) = some r := by rw [if_pos rfl] at H; exact H
  clear H
  have H := H1
  clear H1
  have HC5 := Aside0.mk H
  clear H
  go_enter Try.func10, Try.ntmps10
  go_upto_region 3 with (first | ((with_reducible refine gate_dst (N := 2) rfl ?_); refine bx_ 2 #[.int .i64 a0_0, .slice A0_1 l0_1.length c0_1, .int .i64 a0_2, .int .i64 a0_3, .slice A0_4 l0_4.length c0_4, .slice A0_5 l0_5.length c0_5] 26 ?_; intro gb483 hg w6 hbox hb; have n0_ := Aside0.mk (below_step hb_ hb); have n1_ := Aside0.mk (hbox); have n2_ := Aside0.mk ((by rw [hg]; exact (below_size hb_) : w.heap.size ≤ gb483)); have n3_ := Aside0.mk ((by rw [hg]; exact (below_size hb_) : w.heap.size ≤ gb483)); clear HB; have HB := n0_; have BK483 := n1_; have GW483 := n2_; have GE483 := n3_; clear n0_ n1_ n2_ n3_; clear hb hbox hg) | ((with_reducible refine gate_callee (f := 11) rfl ?_); refine goesL_ (some 13) rfl rfl Try.func11 (by kernel_rfl) rfl #[] rfl am_ ?_; (with_reducible refine (hopmeshlaw34_awake.calls  true _ A3.out).mono ?_); rintro e w7 ⟨rfl, hb⟩; refine ⟨_, rfl, ?_⟩; have n0_ := bk_ BK483 hb; have n1_ := Aside0.mk (below_step hb_ hb); clear BK483; clear HB; have BK483 := n0_; have HB := n1_; clear n0_ n1_; (try clear hb); (try clear hb2); (try clear hk); (try clear hi)))
  (try simp only [Act.put, List.setIfInBounds_toArray, List.set_cons_zero, List.set_cons_succ])
  go_cut [32] (fun v32 wc => ∃ (kq : Nat) (x32_4 : Bool), v32 = .bool x32_4 ∧ Aside0 (hopmeshlaw34_ConflictSets.j0 kq l1 x32_4 a0_0 l0_1 a0_2 a0_3 l0_4 l0_5 = some r) ∧ Aside0 (kq ≤ k) ∧ Aside0 (wc.heap[gb483]? = some (.cells #[.int .i64 a0_0, (.slice A0_1 l0_1.length c0_1), .int .i64 a0_2, .int .i64 a0_3, (.slice A0_4 l0_4.length c0_4), (.slice A0_5 l0_5.length c0_5)] 26 (0, 0))) ∧ Aside0 (Below w.heap.size w wc))
  case first =>
   have H := HC5.out
   clear HC5
   replace H := Option.bind_eq_some_iff.mp H
   obtain ⟨t485, A80, H⟩ := H
   replace H : (if t485 = true then (if (l1.length : Int) > 9 then (if (l1.length : Int) = 13 then (hopmeshlaw34_ConflictSets.j0 k l1 false a0_0 l0_1 a0_2 a0_3 l0_4 l0_5) else (hopmeshlaw34_ConflictSets.j0 k l1 ((l1.length : Int) != 46) a0_0 l0_1 a0_2 a0_3 l0_4 l0_5)) else (hopmeshlaw34_ConflictSets.j0 k l1 false a0_0 l0_1 a0_2 a0_3 l0_4 l0_5)) else (hopmeshlaw34_ConflictSets.j0 k l1 true a0_0 l0_1 a0_2 a0_3 l0_4 l0_5)) = some r := H
   have A8 := Aside0.mk A80
   clear A80
   by_cases c9 : t485 = true
   ·
    subst c9
    have H1 : (if (l1.length : Int) > 9 then (if (l1.length : Int) = 13 then (hopmeshlaw34_ConflictSets.j0 k l1 false a0_0 l0_1 a0_2 a0_3 l0_4 l0_5) else (hopmeshlaw34_ConflictSets.j0 k l1 ((l1.length : Int) != 46) a0_0 l0_1 a0_2 a0_3 l0_4 l0_5)) else (hopmeshlaw34_ConflictSets.j0 k l1 false a0_0 l0_1 a0_2 a0_3 l0_4 l0_5)) = some r := by rw [if_pos rfl] at H; exact H
    clear H
    have H := H1
    clear H1
    by_cases c10 : (l1.length : Int) > 9
    ·
     rw [if_pos c10] at H
     have c10b0 : decide (9 < (l1.length : Int)) = true := decide_eq_true c10
     have c10b1 : decide (9 < l1.length) = true := decide_eq_true (by omega)
     clear c10
     (first | rw [c10b0] | (simp only [i64_w, i32_w]; rw [c10b0]) | skip)
     by_cases c11 : (l1.length : Int) = 13
     ·
      rw [if_pos c11] at H
      have c11b0 : ((l1.length : Int) == 13) = true := beq_iff_eq.mpr c11
      have c11b1 : ((l1.length : Int) != 13) = false := bne_eq_false_iff_eq.mpr c11
      clear c11
      have H' := Aside0.mk H
      clear H
      have hcz12_0 := bc0 BK483
      have hcz12_1 := bc1 BK483
      have hcz12_2 := bc2 BK483
      have hcz12_3 := bc3 BK483
      have hcz12_4 := bc4 BK483
      have hcz12_5 := bc5 BK483
      have hfz12_0 := blk_frozen BK483.out 0
      have hfz12_1 := blk_frozen BK483.out 1
      have hfz12_2 := blk_frozen BK483.out 2
      have hfz12_3 := blk_frozen BK483.out 3
      have hfz12_4 := blk_frozen BK483.out 4
      have hfz12_5 := blk_frozen BK483.out 5
      go_wp2_with (first | ((with_reducible refine gate_callee (f := 12) rfl ?_); refine goesL_ (some 16) rfl rfl Try.func12 (by kernel_rfl) rfl #[.agg #[.int .i64 a0_0, .slice A0_1 l0_1.length c0_1, .int .i64 a0_2, .int .i64 a0_3, .slice A0_4 l0_4.length c0_4, .slice A0_5 l0_5.length c0_5]] rfl am_ ?_; (with_reducible refine (hopmeshref31_Few.calls k a0_0 _ _ l0_1 a0_2 a0_3 _ _ l0_4 _ _ l0_5 true _ ?side1 ?side2 ?side3 ?side4 ?side5 ?side6 A8.out).mono ?_); (case side1 | side3 | side5 => exact cb_); (case side2 | side4 | side6 => first | exact HC0_1.out | exact HC0_4.out | exact HC0_5.out); rintro e w13 ⟨rfl, hb⟩; refine ⟨_, rfl, ?_⟩; have n0_ := bk_ BK483 hb; have n1_ := Aside0.mk (below_step hb_ hb); clear BK483; clear HB; have BK483 := n0_; have HB := n1_; clear n0_ n1_; (try clear hb); (try clear hb2); (try clear hk); (try clear hi)))
      go_meet
      case rel => exact ⟨_, (false), rl_, H', ⟨by first | omega | exact Nat.le_refl _⟩, ⟨bj_ BK483⟩, ⟨hb_⟩⟩
     ·
      rw [if_neg c11] at H
      have c11b0 : ((l1.length : Int) == 13) = false := beq_eq_false_iff_ne.mpr c11
      have c11b1 : ((l1.length : Int) != 13) = true := bne_iff_ne.mpr c11
      have H' := Aside0.mk H
      clear H
      have hcz14_0 := bc0 BK483
      have hcz14_1 := bc1 BK483
      have hcz14_2 := bc2 BK483
      have hcz14_3 := bc3 BK483
      have hcz14_4 := bc4 BK483
      have hcz14_5 := bc5 BK483
      have hfz14_0 := blk_frozen BK483.out 0
      have hfz14_1 := blk_frozen BK483.out 1
      have hfz14_2 := blk_frozen BK483.out 2
      have hfz14_3 := blk_frozen BK483.out 3
      have hfz14_4 := blk_frozen BK483.out 4
      have hfz14_5 := blk_frozen BK483.out 5
      go_wp2_with (first | ((with_reducible refine gate_callee (f := 12) rfl ?_); refine goesL_ (some 16) rfl rfl Try.func12 (by kernel_rfl) rfl #[.agg #[.int .i64 a0_0, .slice A0_1 l0_1.length c0_1, .int .i64 a0_2, .int .i64 a0_3, .slice A0_4 l0_4.length c0_4, .slice A0_5 l0_5.length c0_5]] rfl am_ ?_; (with_reducible refine (hopmeshref31_Few.calls k a0_0 _ _ l0_1 a0_2 a0_3 _ _ l0_4 _ _ l0_5 true _ ?side1 ?side2 ?side3 ?side4 ?side5 ?side6 A8.out).mono ?_); (case side1 | side3 | side5 => exact cb_); (case side2 | side4 | side6 => first | exact HC0_1.out | exact HC0_4.out | exact HC0_5.out); rintro e w15 ⟨rfl, hb⟩; refine ⟨_, rfl, ?_⟩; have n0_ := bk_ BK483 hb; have n1_ := Aside0.mk (below_step hb_ hb); clear BK483; clear HB; have BK483 := n0_; have HB := n1_; clear n0_ n1_; (try clear hb); (try clear hb2); (try clear hk); (try clear hi)))
      go_meet
      case rel => exact ⟨_, (((l1.length : Int) != 46)), rl_, H', ⟨by first | omega | exact Nat.le_refl _⟩, ⟨bj_ BK483⟩, ⟨hb_⟩⟩
    ·
     rw [if_neg c10] at H
     have c10b0 : decide (9 < (l1.length : Int)) = false := decide_eq_false c10
     have c10b1 : decide (9 < l1.length) = false := decide_eq_false (by omega)
     clear c10
     (first | rw [c10b0] | (simp only [i64_w, i32_w]; rw [c10b0]) | skip)
     have H' := Aside0.mk H
     clear H
     have hcz16_0 := bc0 BK483
     have hcz16_1 := bc1 BK483
     have hcz16_2 := bc2 BK483
     have hcz16_3 := bc3 BK483
     have hcz16_4 := bc4 BK483
     have hcz16_5 := bc5 BK483
     have hfz16_0 := blk_frozen BK483.out 0
     have hfz16_1 := blk_frozen BK483.out 1
     have hfz16_2 := blk_frozen BK483.out 2
     have hfz16_3 := blk_frozen BK483.out 3
     have hfz16_4 := blk_frozen BK483.out 4
     have hfz16_5 := blk_frozen BK483.out 5
     go_wp2_with (first | ((with_reducible refine gate_callee (f := 12) rfl ?_); refine goesL_ (some 16) rfl rfl Try.func12 (by kernel_rfl) rfl #[.agg #[.int .i64 a0_0, .slice A0_1 l0_1.length c0_1, .int .i64 a0_2, .int .i64 a0_3, .slice A0_4 l0_4.length c0_4, .slice A0_5 l0_5.length c0_5]] rfl am_ ?_; (with_reducible refine (hopmeshref31_Few.calls k a0_0 _ _ l0_1 a0_2 a0_3 _ _ l0_4 _ _ l0_5 true _ ?side1 ?side2 ?side3 ?side4 ?side5 ?side6 A8.out).mono ?_); (case side1 | side3 | side5 => exact cb_); (case side2 | side4 | side6 => first | exact HC0_1.out | exact HC0_4.out | exact HC0_5.out); rintro e w17 ⟨rfl, hb⟩; refine ⟨_, rfl, ?_⟩; have n0_ := bk_ BK483 hb; have n1_ := Aside0.mk (below_step hb_ hb); clear BK483; clear HB; have BK483 := n0_; have HB := n1_; clear n0_ n1_; (try clear hb); (try clear hb2); (try clear hk); (try clear hi)))
     go_meet
     case rel => exact ⟨_, (false), rl_, H', ⟨by first | omega | exact Nat.le_refl _⟩, ⟨bj_ BK483⟩, ⟨hb_⟩⟩
   ·
    replace c9 := Bool.eq_false_iff.mpr c9
    subst c9
    have H1 : (hopmeshlaw34_ConflictSets.j0 k l1 true a0_0 l0_1 a0_2 a0_3 l0_4 l0_5) = some r := by rw [if_neg (show ¬ (false = true) by decide)] at H; exact H
    clear H
    have H := H1
    clear H1
    have H' := Aside0.mk H
    clear H
    have hcz18_0 := bc0 BK483
    have hcz18_1 := bc1 BK483
    have hcz18_2 := bc2 BK483
    have hcz18_3 := bc3 BK483
    have hcz18_4 := bc4 BK483
    have hcz18_5 := bc5 BK483
    have hfz18_0 := blk_frozen BK483.out 0
    have hfz18_1 := blk_frozen BK483.out 1
    have hfz18_2 := blk_frozen BK483.out 2
    have hfz18_3 := blk_frozen BK483.out 3
    have hfz18_4 := blk_frozen BK483.out 4
    have hfz18_5 := blk_frozen BK483.out 5
    go_wp2_with (first | ((with_reducible refine gate_callee (f := 12) rfl ?_); refine goesL_ (some 16) rfl rfl Try.func12 (by kernel_rfl) rfl #[.agg #[.int .i64 a0_0, .slice A0_1 l0_1.length c0_1, .int .i64 a0_2, .int .i64 a0_3, .slice A0_4 l0_4.length c0_4, .slice A0_5 l0_5.length c0_5]] rfl am_ ?_; (with_reducible refine (hopmeshref31_Few.calls k a0_0 _ _ l0_1 a0_2 a0_3 _ _ l0_4 _ _ l0_5 false _ ?side1 ?side2 ?side3 ?side4 ?side5 ?side6 A8.out).mono ?_); (case side1 | side3 | side5 => exact cb_); (case side2 | side4 | side6 => first | exact HC0_1.out | exact HC0_4.out | exact HC0_5.out); rintro e w19 ⟨rfl, hb⟩; refine ⟨_, rfl, ?_⟩; have n0_ := bk_ BK483 hb; have n1_ := Aside0.mk (below_step hb_ hb); clear BK483; clear HB; have BK483 := n0_; have HB := n1_; clear n0_ n1_; (try clear hb); (try clear hb2); (try clear hk); (try clear hi)))
    go_meet
    case rel => exact ⟨_, (true), rl_, H', ⟨by first | omega | exact Nat.le_refl _⟩, ⟨bj_ BK483⟩, ⟨hb_⟩⟩
  case rest =>
   clear HC5
   try clear c1; try clear p2; try clear c4; try clear c9; try clear c10; try clear c10b0; try clear c10b1; try clear c11; try clear c11b0; try clear c11b1; try clear c12; try clear hcz12_0; try clear hcz12_1; try clear hcz12_2; try clear hcz12_3; try clear hcz12_4; try clear hcz12_5; try clear hcz14_0; try clear hcz14_1; try clear hcz14_2; try clear hcz14_3; try clear hcz14_4; try clear hcz14_5; try clear hcz16_0; try clear hcz16_1; try clear hcz16_2; try clear hcz16_3; try clear hcz16_4; try clear hcz16_5; try clear hcz18_0; try clear hcz18_1; try clear hcz18_2; try clear hcz18_3; try clear hcz18_4; try clear hcz18_5; try clear hfz12_0; try clear hfz12_1; try clear hfz12_2; try clear hfz12_3; try clear hfz12_4; try clear hfz12_5; try clear hfz14_0; try clear hfz14_1; try clear hfz14_2; try clear hfz14_3; try clear hfz14_4; try clear hfz14_5; try clear hfz16_0; try clear hfz16_1; try clear hfz16_2; try clear hfz16_3; try clear hfz16_4; try clear hfz16_5; try clear hfz18_0; try clear hfz18_1; try clear hfz18_2; try clear hfz18_3; try clear hfz18_4; try clear hfz18_5
   (repeat clear BK483); (repeat clear HB)
   obtain ⟨kq, x32_4, rfl, HA, HJ4, BK483, HB⟩ := hcut
   cases kq with
   | zero => exact absurd HA.out (by simp [hopmeshlaw34_ConflictSets.j0])
   | succ kj4 =>
    have H := HA.out
    clear HA
    simp only [hopmeshlaw34_ConflictSets.j0] at H
    by_cases c20 : x32_4 = true
    ·
     subst c20
     have H1 : (some true) = some r := by rw [if_pos rfl] at H; exact H
     clear H
     have H := H1
     clear H1
     obtain rfl := Option.some.inj H
     go_wp2
     go_ret
     exact ⟨er_, hb_⟩
    ·
     replace c20 := Bool.eq_false_iff.mpr c20
     subst c20
     have H1 : ((conflict_Largest.f kj4 a0_0 l0_1 a0_2 a0_3 l0_4 l0_5 l1).bind fun bt486 => ((hopmeshref34_Largest.f kj4 a0_0 l0_1 a0_2 a0_3 l0_4 l0_5 l1).bind fun bt490 => ((conflict_Pairs.f kj4 a0_0 l0_1 a0_2 a0_3 l0_4 l0_5 l1).bind fun bt494 => ((hopmeshref34_Pairs.f kj4 a0_0 l0_1 a0_2 a0_3 l0_4 l0_5 l1).bind fun bt498 => (if bt486.2 = bt490.2 then ((slices_Equal_int_int.f kj4 bt486.1 bt490.1).bind fun t502 => (if t502 = true then (if bt494.2 = bt498.2 then ((slices_Equal_2_int_2_int.f kj4 bt494.1 bt498.1).bind fun t503 => (some t503)) else (some false)) else (some false))) else (some false)))))) = some r := by rw [if_neg (show ¬ (false = true) by decide)] at H; exact H
     clear H
     have H := H1
     clear H1
     replace H := Option.bind_eq_some_iff.mp H
     obtain ⟨⟨t486, t489⟩, A210, H⟩ := H
     replace H : ((hopmeshref34_Largest.f kj4 a0_0 l0_1 a0_2 a0_3 l0_4 l0_5 l1).bind fun bt490 => ((conflict_Pairs.f kj4 a0_0 l0_1 a0_2 a0_3 l0_4 l0_5 l1).bind fun bt494 => ((hopmeshref34_Pairs.f kj4 a0_0 l0_1 a0_2 a0_3 l0_4 l0_5 l1).bind fun bt498 => (if t489 = bt490.2 then ((slices_Equal_int_int.f kj4 t486 bt490.1).bind fun t502 => (if t502 = true then (if bt494.2 = bt498.2 then ((slices_Equal_2_int_2_int.f kj4 bt494.1 bt498.1).bind fun t503 => (some t503)) else (some false)) else (some false))) else (some false))))) = some r := H
     have A21 := Aside0.mk A210
     clear A210
     replace H := Option.bind_eq_some_iff.mp H
     obtain ⟨⟨t490, t493⟩, A220, H⟩ := H
     replace H : ((conflict_Pairs.f kj4 a0_0 l0_1 a0_2 a0_3 l0_4 l0_5 l1).bind fun bt494 => ((hopmeshref34_Pairs.f kj4 a0_0 l0_1 a0_2 a0_3 l0_4 l0_5 l1).bind fun bt498 => (if t489 = t493 then ((slices_Equal_int_int.f kj4 t486 t490).bind fun t502 => (if t502 = true then (if bt494.2 = bt498.2 then ((slices_Equal_2_int_2_int.f kj4 bt494.1 bt498.1).bind fun t503 => (some t503)) else (some false)) else (some false))) else (some false)))) = some r := H
     have A22 := Aside0.mk A220
     clear A220
     replace H := Option.bind_eq_some_iff.mp H
     obtain ⟨⟨t494, t497⟩, A230, H⟩ := H
     replace H : ((hopmeshref34_Pairs.f kj4 a0_0 l0_1 a0_2 a0_3 l0_4 l0_5 l1).bind fun bt498 => (if t489 = t493 then ((slices_Equal_int_int.f kj4 t486 t490).bind fun t502 => (if t502 = true then (if t497 = bt498.2 then ((slices_Equal_2_int_2_int.f kj4 t494 bt498.1).bind fun t503 => (some t503)) else (some false)) else (some false))) else (some false))) = some r := H
     have A23 := Aside0.mk A230
     clear A230
     replace H := Option.bind_eq_some_iff.mp H
     obtain ⟨⟨t498, t501⟩, A240, H⟩ := H
     replace H : (if t489 = t493 then ((slices_Equal_int_int.f kj4 t486 t490).bind fun t502 => (if t502 = true then (if t497 = t501 then ((slices_Equal_2_int_2_int.f kj4 t494 t498).bind fun t503 => (some t503)) else (some false)) else (some false))) else (some false)) = some r := H
     have A24 := Aside0.mk A240
     clear A240
     by_cases c25 : t489 = t493
     ·
      rw [if_pos c25] at H
      have c25b0 : (t489 == t493) = true := beq_iff_eq.mpr c25
      have c25b1 : (t489 != t493) = false := bne_eq_false_iff_eq.mpr c25
      clear c25
      replace H := Option.bind_eq_some_iff.mp H
      obtain ⟨t502, A260, H⟩ := H
      replace H : (if t502 = true then (if t497 = t501 then ((slices_Equal_2_int_2_int.f kj4 t494 t498).bind fun t503 => (some t503)) else (some false)) else (some false)) = some r := H
      have A26 := Aside0.mk A260
      clear A260
      by_cases c27 : t502 = true
      ·
       subst c27
       have H1 : (if t497 = t501 then ((slices_Equal_2_int_2_int.f kj4 t494 t498).bind fun t503 => (some t503)) else (some false)) = some r := by rw [if_pos rfl] at H; exact H
       clear H
       have H := H1
       clear H1
       by_cases c28 : t497 = t501
       ·
        rw [if_pos c28] at H
        have c28b0 : (t497 == t501) = true := beq_iff_eq.mpr c28
        have c28b1 : (t497 != t501) = false := bne_eq_false_iff_eq.mpr c28
        clear c28
        replace H := Option.bind_eq_some_iff.mp H
        obtain ⟨t503, A290, H⟩ := H
        replace H : (some t503) = some r := H
        have A29 := Aside0.mk A290
        clear A290
        obtain rfl := Option.some.inj H
        have hcz30_0 := bc0 BK483
        have hcz30_1 := bc1 BK483
        have hcz30_2 := bc2 BK483
        have hcz30_3 := bc3 BK483
        have hcz30_4 := bc4 BK483
        have hcz30_5 := bc5 BK483
        have hfz30_0 := blk_frozen BK483.out 0
        have hfz30_1 := blk_frozen BK483.out 1
        have hfz30_2 := blk_frozen BK483.out 2
        have hfz30_3 := blk_frozen BK483.out 3
        have hfz30_4 := blk_frozen BK483.out 4
        have hfz30_5 := blk_frozen BK483.out 5
        go_wp2_with (first | ((with_reducible refine gate_callee (f := 28) rfl ?_); refine goesL_ (some 36) rfl rfl Try.func28 (by kernel_rfl) rfl #[.agg #[.int .i64 a0_0, .slice A0_1 l0_1.length c0_1, .int .i64 a0_2, .int .i64 a0_3, .slice A0_4 l0_4.length c0_4, .slice A0_5 l0_5.length c0_5], .slice A1 l1.length c1] rfl am_ ?_; (with_reducible refine (conflict_Largest.calls kj4 a0_0 _ _ l0_1 a0_2 a0_3 _ _ l0_4 _ _ l0_5 _ _ l1 t486 t489 _ ?side1 ?side2 ?side3 ?side4 ?side5 ?side6 ?side7 ?side8 A21.out).mono ?_); (case side1 | side3 | side5 | side7 => exact cb_); (case side2 | side4 | side6 | side8 => first | exact HC0_1.out | exact HC0_4.out | exact HC0_5.out | exact HC1.out); rintro e w31 ⟨v487, rfl, ho0, hb⟩; refine ⟨_, rfl, ?_⟩; have n0_ := Aside0.mk (Kd.R_lower ho0 (below_size hb_)); have n1_ := bk_ BK483 hb; have n2_ := Aside0.mk (below_step hb_ hb); clear BK483; clear HB; have HO488 := n0_; have BK483 := n1_; have HB := n2_; clear n0_ n1_ n2_; (try clear hb); (try clear hb2); (try clear hk); (try clear hi); (try clear ho0); have hcz32_0 := bc0 BK483; have hcz32_1 := bc1 BK483; have hcz32_2 := bc2 BK483; have hcz32_3 := bc3 BK483; have hcz32_4 := bc4 BK483; have hcz32_5 := bc5 BK483; have hfz32_0 := blk_frozen BK483.out 0; have hfz32_1 := blk_frozen BK483.out 1; have hfz32_2 := blk_frozen BK483.out 2; have hfz32_3 := blk_frozen BK483.out 3; have hfz32_4 := blk_frozen BK483.out 4; have hfz32_5 := blk_frozen BK483.out 5) | ((with_reducible refine gate_callee (f := 30) rfl ?_); refine goesL_ (some 42) rfl rfl Try.func30 (by kernel_rfl) rfl #[.agg #[.int .i64 a0_0, .slice A0_1 l0_1.length c0_1, .int .i64 a0_2, .int .i64 a0_3, .slice A0_4 l0_4.length c0_4, .slice A0_5 l0_5.length c0_5], .slice A1 l1.length c1] rfl am_ ?_; (with_reducible refine (hopmeshref34_Largest.calls kj4 a0_0 _ _ l0_1 a0_2 a0_3 _ _ l0_4 _ _ l0_5 _ _ l1 t490 t493 _ ?side1 ?side2 ?side3 ?side4 ?side5 ?side6 ?side7 ?side8 A22.out).mono ?_); (case side1 | side3 | side5 | side7 => exact cb_); (case side2 | side4 | side6 | side8 => first | exact HC0_1.out | exact HC0_4.out | exact HC0_5.out | exact HC1.out); rintro e w33 ⟨v491, rfl, ho0, hb⟩; refine ⟨_, rfl, ?_⟩; have n0_ := Aside0.mk (Kd.R_elder' (kr_ HO488) (Kd.R_base ho0) hb); have n1_ := Aside0.mk (Kd.R_lower (Kd.R_new' ho0 (Kd.R_lt (kr_ HO488))) (below_size hb_)); have n2_ := bk_ BK483 hb; have n3_ := Aside0.mk (below_step hb_ hb); clear HO488; clear BK483; clear HB; have HO488 := n0_; have HO492 := n1_; have BK483 := n2_; have HB := n3_; clear n0_ n1_ n2_ n3_; (try clear hb); (try clear hb2); (try clear hk); (try clear hi); (try clear ho0); have hcz34_0 := bc0 BK483; have hcz34_1 := bc1 BK483; have hcz34_2 := bc2 BK483; have hcz34_3 := bc3 BK483; have hcz34_4 := bc4 BK483; have hcz34_5 := bc5 BK483; have hfz34_0 := blk_frozen BK483.out 0; have hfz34_1 := blk_frozen BK483.out 1; have hfz34_2 := blk_frozen BK483.out 2; have hfz34_3 := blk_frozen BK483.out 3; have hfz34_4 := blk_frozen BK483.out 4; have hfz34_5 := blk_frozen BK483.out 5) | ((with_reducible refine gate_callee (f := 31) rfl ?_); refine goesL_ (some 48) rfl rfl Try.func31 (by kernel_rfl) rfl #[.agg #[.int .i64 a0_0, .slice A0_1 l0_1.length c0_1, .int .i64 a0_2, .int .i64 a0_3, .slice A0_4 l0_4.length c0_4, .slice A0_5 l0_5.length c0_5], .slice A1 l1.length c1] rfl am_ ?_; (with_reducible refine (conflict_Pairs.calls kj4 a0_0 _ _ l0_1 a0_2 a0_3 _ _ l0_4 _ _ l0_5 _ _ l1 t494 t497 _ ?side1 ?side2 ?side3 ?side4 ?side5 ?side6 ?side7 ?side8 A23.out).mono ?_); (case side1 | side3 | side5 | side7 => exact cb_); (case side2 | side4 | side6 | side8 => first | exact HC0_1.out | exact HC0_4.out | exact HC0_5.out | exact HC1.out); rintro e w35 ⟨v495, rfl, ho0, hb⟩; refine ⟨_, rfl, ?_⟩; have n0_ := Aside0.mk (Kd.R_below (kr_ HO488) hb); have n1_ := Aside0.mk (Kd.R_below (kr_ HO492) hb); have n2_ := Aside0.mk (Kd.R_lower ho0 (below_size hb_)); have n3_ := bk_ BK483 hb; have n4_ := Aside0.mk (below_step hb_ hb); clear HO488; clear HO492; clear BK483; clear HB; have HO488 := n0_; have HO492 := n1_; have HO496 := n2_; have BK483 := n3_; have HB := n4_; clear n0_ n1_ n2_ n3_ n4_; (try clear hb); (try clear hb2); (try clear hk); (try clear hi); (try clear ho0); have hcz36_0 := bc0 BK483; have hcz36_1 := bc1 BK483; have hcz36_2 := bc2 BK483; have hcz36_3 := bc3 BK483; have hcz36_4 := bc4 BK483; have hcz36_5 := bc5 BK483; have hfz36_0 := blk_frozen BK483.out 0; have hfz36_1 := blk_frozen BK483.out 1; have hfz36_2 := blk_frozen BK483.out 2; have hfz36_3 := blk_frozen BK483.out 3; have hfz36_4 := blk_frozen BK483.out 4; have hfz36_5 := blk_frozen BK483.out 5) | ((with_reducible refine gate_callee (f := 32) rfl ?_); refine goesL_ (some 54) rfl rfl Try.func32 (by kernel_rfl) rfl #[.agg #[.int .i64 a0_0, .slice A0_1 l0_1.length c0_1, .int .i64 a0_2, .int .i64 a0_3, .slice A0_4 l0_4.length c0_4, .slice A0_5 l0_5.length c0_5], .slice A1 l1.length c1] rfl am_ ?_; (with_reducible refine (hopmeshref34_Pairs.calls kj4 a0_0 _ _ l0_1 a0_2 a0_3 _ _ l0_4 _ _ l0_5 _ _ l1 t498 t501 _ ?side1 ?side2 ?side3 ?side4 ?side5 ?side6 ?side7 ?side8 A24.out).mono ?_); (case side1 | side3 | side5 | side7 => exact cb_); (case side2 | side4 | side6 | side8 => first | exact HC0_1.out | exact HC0_4.out | exact HC0_5.out | exact HC1.out); rintro e w37 ⟨v499, rfl, ho0, hb⟩; refine ⟨_, rfl, ?_⟩; have n0_ := Aside0.mk (Kd.R_below (kr_ HO488) hb); have n1_ := Aside0.mk (Kd.R_below (kr_ HO492) hb); have n2_ := Aside0.mk (Kd.R_elder' (kr_ HO496) (Kd.R_base ho0) hb); have n3_ := Aside0.mk (Kd.R_lower (Kd.R_new' ho0 (Kd.R_lt (kr_ HO496))) (below_size hb_)); have n4_ := bk_ BK483 hb; have n5_ := Aside0.mk (below_step hb_ hb); clear HO488; clear HO492; clear HO496; clear BK483; clear HB; have HO488 := n0_; have HO492 := n1_; have HO496 := n2_; have HO500 := n3_; have BK483 := n4_; have HB := n5_; clear n0_ n1_ n2_ n3_ n4_ n5_; (try clear hb); (try clear hb2); (try clear hk); (try clear hi); (try clear ho0); obtain ⟨Ao38, co38, eo38⟩ := Kd.R_slice HO488.out; subst eo38; obtain ⟨Ao39, co39, eo39⟩ := Kd.R_slice HO492.out; subst eo39) | (go_at_call 33; (with_reducible refine (slices_Equal_int_int.calls kj4 _ _ t486 _ _ t490 true _ ?side1 ?side2 ?side3 ?side4 A26.out).mono ?_); (case side1 => repeat (first | exact (Kd.R_reads' HO488.out).2.2 | (with_reducible refine Kd.C_alloc ?_ _) | (with_reducible refine Kd.C_drewN ?_ _) | (with_reducible refine Kd.C_drew ?_))); (case side2 => exact (Kd.R_reads' HO488.out).2.1); (case side3 => repeat (first | exact (Kd.R_reads' HO492.out).2.2 | (with_reducible refine Kd.C_alloc ?_ _) | (with_reducible refine Kd.C_drewN ?_ _) | (with_reducible refine Kd.C_drew ?_))); (case side4 => exact (Kd.R_reads' HO492.out).2.1); rintro e w' ⟨rfl, ⟨nd, rfl⟩⟩; obtain ⟨Ao40, co40, eo40⟩ := Kd.R_slice HO496.out; subst eo40; obtain ⟨Ao41, co41, eo41⟩ := Kd.R_slice HO500.out; subst eo41) | (go_at_call 34; (with_reducible refine (slices_Equal_2_int_2_int.calls kj4 _ _ t494 _ _ t498 t503 _ ?side1 ?side2 ?side3 ?side4 A29.out).mono ?_); (case side1 => repeat (first | exact (Kd.R_reads' HO496.out).2.2 | (with_reducible refine Kd.C_alloc ?_ _) | (with_reducible refine Kd.C_drewN ?_ _) | (with_reducible refine Kd.C_drew ?_))); (case side2 => exact (Kd.R_reads' HO496.out).2.1); (case side3 => repeat (first | exact (Kd.R_reads' HO500.out).2.2 | (with_reducible refine Kd.C_alloc ?_ _) | (with_reducible refine Kd.C_drewN ?_ _) | (with_reducible refine Kd.C_drew ?_))); (case side4 => exact (Kd.R_reads' HO500.out).2.1); rintro e w' ⟨rfl, ⟨nd, rfl⟩⟩))
        go_ret
        exact ⟨er_, hb_⟩
       ·
        rw [if_neg c28] at H
        have c28b0 : (t497 == t501) = false := beq_eq_false_iff_ne.mpr c28
        have c28b1 : (t497 != t501) = true := bne_iff_ne.mpr c28
        obtain rfl := Option.some.inj H
        have hcz42_0 := bc0 BK483
        have hcz42_1 := bc1 BK483
        have hcz42_2 := bc2 BK483
        have hcz42_3 := bc3 BK483
        have hcz42_4 := bc4 BK483
        have hcz42_5 := bc5 BK483
        have hfz42_0 := blk_frozen BK483.out 0
        have hfz42_1 := blk_frozen BK483.out 1
        have hfz42_2 := blk_frozen BK483.out 2
        have hfz42_3 := blk_frozen BK483.out 3
        have hfz42_4 := blk_frozen BK483.out 4
        have hfz42_5 := blk_frozen BK483.out 5
        go_wp2_with (first | ((with_reducible refine gate_callee (f := 28) rfl ?_); refine goesL_ (some 36) rfl rfl Try.func28 (by kernel_rfl) rfl #[.agg #[.int .i64 a0_0, .slice A0_1 l0_1.length c0_1, .int .i64 a0_2, .int .i64 a0_3, .slice A0_4 l0_4.length c0_4, .slice A0_5 l0_5.length c0_5], .slice A1 l1.length c1] rfl am_ ?_; (with_reducible refine (conflict_Largest.calls kj4 a0_0 _ _ l0_1 a0_2 a0_3 _ _ l0_4 _ _ l0_5 _ _ l1 t486 t489 _ ?side1 ?side2 ?side3 ?side4 ?side5 ?side6 ?side7 ?side8 A21.out).mono ?_); (case side1 | side3 | side5 | side7 => exact cb_); (case side2 | side4 | side6 | side8 => first | exact HC0_1.out | exact HC0_4.out | exact HC0_5.out | exact HC1.out); rintro e w43 ⟨v487, rfl, ho0, hb⟩; refine ⟨_, rfl, ?_⟩; have n0_ := Aside0.mk (Kd.R_lower ho0 (below_size hb_)); have n1_ := bk_ BK483 hb; have n2_ := Aside0.mk (below_step hb_ hb); clear BK483; clear HB; have HO488 := n0_; have BK483 := n1_; have HB := n2_; clear n0_ n1_ n2_; (try clear hb); (try clear hb2); (try clear hk); (try clear hi); (try clear ho0); have hcz44_0 := bc0 BK483; have hcz44_1 := bc1 BK483; have hcz44_2 := bc2 BK483; have hcz44_3 := bc3 BK483; have hcz44_4 := bc4 BK483; have hcz44_5 := bc5 BK483; have hfz44_0 := blk_frozen BK483.out 0; have hfz44_1 := blk_frozen BK483.out 1; have hfz44_2 := blk_frozen BK483.out 2; have hfz44_3 := blk_frozen BK483.out 3; have hfz44_4 := blk_frozen BK483.out 4; have hfz44_5 := blk_frozen BK483.out 5) | ((with_reducible refine gate_callee (f := 30) rfl ?_); refine goesL_ (some 42) rfl rfl Try.func30 (by kernel_rfl) rfl #[.agg #[.int .i64 a0_0, .slice A0_1 l0_1.length c0_1, .int .i64 a0_2, .int .i64 a0_3, .slice A0_4 l0_4.length c0_4, .slice A0_5 l0_5.length c0_5], .slice A1 l1.length c1] rfl am_ ?_; (with_reducible refine (hopmeshref34_Largest.calls kj4 a0_0 _ _ l0_1 a0_2 a0_3 _ _ l0_4 _ _ l0_5 _ _ l1 t490 t493 _ ?side1 ?side2 ?side3 ?side4 ?side5 ?side6 ?side7 ?side8 A22.out).mono ?_); (case side1 | side3 | side5 | side7 => exact cb_); (case side2 | side4 | side6 | side8 => first | exact HC0_1.out | exact HC0_4.out | exact HC0_5.out | exact HC1.out); rintro e w45 ⟨v491, rfl, ho0, hb⟩; refine ⟨_, rfl, ?_⟩; have n0_ := Aside0.mk (Kd.R_elder' (kr_ HO488) (Kd.R_base ho0) hb); have n1_ := Aside0.mk (Kd.R_lower (Kd.R_new' ho0 (Kd.R_lt (kr_ HO488))) (below_size hb_)); have n2_ := bk_ BK483 hb; have n3_ := Aside0.mk (below_step hb_ hb); clear HO488; clear BK483; clear HB; have HO488 := n0_; have HO492 := n1_; have BK483 := n2_; have HB := n3_; clear n0_ n1_ n2_ n3_; (try clear hb); (try clear hb2); (try clear hk); (try clear hi); (try clear ho0); have hcz46_0 := bc0 BK483; have hcz46_1 := bc1 BK483; have hcz46_2 := bc2 BK483; have hcz46_3 := bc3 BK483; have hcz46_4 := bc4 BK483; have hcz46_5 := bc5 BK483; have hfz46_0 := blk_frozen BK483.out 0; have hfz46_1 := blk_frozen BK483.out 1; have hfz46_2 := blk_frozen BK483.out 2; have hfz46_3 := blk_frozen BK483.out 3; have hfz46_4 := blk_frozen BK483.out 4; have hfz46_5 := blk_frozen BK483.out 5) | ((with_reducible refine gate_callee (f := 31) rfl ?_); refine goesL_ (some 48) rfl rfl Try.func31 (by kernel_rfl) rfl #[.agg #[.int .i64 a0_0, .slice A0_1 l0_1.length c0_1, .int .i64 a0_2, .int .i64 a0_3, .slice A0_4 l0_4.length c0_4, .slice A0_5 l0_5.length c0_5], .slice A1 l1.length c1] rfl am_ ?_; (with_reducible refine (conflict_Pairs.calls kj4 a0_0 _ _ l0_1 a0_2 a0_3 _ _ l0_4 _ _ l0_5 _ _ l1 t494 t497 _ ?side1 ?side2 ?side3 ?side4 ?side5 ?side6 ?side7 ?side8 A23.out).mono ?_); (case side1 | side3 | side5 | side7 => exact cb_); (case side2 | side4 | side6 | side8 => first | exact HC0_1.out | exact HC0_4.out | exact HC0_5.out | exact HC1.out); rintro e w47 ⟨v495, rfl, ho0, hb⟩; refine ⟨_, rfl, ?_⟩; have n0_ := Aside0.mk (Kd.R_below (kr_ HO488) hb); have n1_ := Aside0.mk (Kd.R_below (kr_ HO492) hb); have n2_ := Aside0.mk (Kd.R_lower ho0 (below_size hb_)); have n3_ := bk_ BK483 hb; have n4_ := Aside0.mk (below_step hb_ hb); clear HO488; clear HO492; clear BK483; clear HB; have HO488 := n0_; have HO492 := n1_; have HO496 := n2_; have BK483 := n3_; have HB := n4_; clear n0_ n1_ n2_ n3_ n4_; (try clear hb); (try clear hb2); (try clear hk); (try clear hi); (try clear ho0); have hcz48_0 := bc0 BK483; have hcz48_1 := bc1 BK483; have hcz48_2 := bc2 BK483; have hcz48_3 := bc3 BK483; have hcz48_4 := bc4 BK483; have hcz48_5 := bc5 BK483; have hfz48_0 := blk_frozen BK483.out 0; have hfz48_1 := blk_frozen BK483.out 1; have hfz48_2 := blk_frozen BK483.out 2; have hfz48_3 := blk_frozen BK483.out 3; have hfz48_4 := blk_frozen BK483.out 4; have hfz48_5 := blk_frozen BK483.out 5) | ((with_reducible refine gate_callee (f := 32) rfl ?_); refine goesL_ (some 54) rfl rfl Try.func32 (by kernel_rfl) rfl #[.agg #[.int .i64 a0_0, .slice A0_1 l0_1.length c0_1, .int .i64 a0_2, .int .i64 a0_3, .slice A0_4 l0_4.length c0_4, .slice A0_5 l0_5.length c0_5], .slice A1 l1.length c1] rfl am_ ?_; (with_reducible refine (hopmeshref34_Pairs.calls kj4 a0_0 _ _ l0_1 a0_2 a0_3 _ _ l0_4 _ _ l0_5 _ _ l1 t498 t501 _ ?side1 ?side2 ?side3 ?side4 ?side5 ?side6 ?side7 ?side8 A24.out).mono ?_); (case side1 | side3 | side5 | side7 => exact cb_); (case side2 | side4 | side6 | side8 => first | exact HC0_1.out | exact HC0_4.out | exact HC0_5.out | exact HC1.out); rintro e w49 ⟨v499, rfl, ho0, hb⟩; refine ⟨_, rfl, ?_⟩; have n0_ := Aside0.mk (Kd.R_below (kr_ HO488) hb); have n1_ := Aside0.mk (Kd.R_below (kr_ HO492) hb); have n2_ := Aside0.mk (Kd.R_elder' (kr_ HO496) (Kd.R_base ho0) hb); have n3_ := Aside0.mk (Kd.R_lower (Kd.R_new' ho0 (Kd.R_lt (kr_ HO496))) (below_size hb_)); have n4_ := bk_ BK483 hb; have n5_ := Aside0.mk (below_step hb_ hb); clear HO488; clear HO492; clear HO496; clear BK483; clear HB; have HO488 := n0_; have HO492 := n1_; have HO496 := n2_; have HO500 := n3_; have BK483 := n4_; have HB := n5_; clear n0_ n1_ n2_ n3_ n4_ n5_; (try clear hb); (try clear hb2); (try clear hk); (try clear hi); (try clear ho0); obtain ⟨Ao50, co50, eo50⟩ := Kd.R_slice HO488.out; subst eo50; obtain ⟨Ao51, co51, eo51⟩ := Kd.R_slice HO492.out; subst eo51) | (go_at_call 33; (with_reducible refine (slices_Equal_int_int.calls kj4 _ _ t486 _ _ t490 true _ ?side1 ?side2 ?side3 ?side4 A26.out).mono ?_); (case side1 => repeat (first | exact (Kd.R_reads' HO488.out).2.2 | (with_reducible refine Kd.C_alloc ?_ _) | (with_reducible refine Kd.C_drewN ?_ _) | (with_reducible refine Kd.C_drew ?_))); (case side2 => exact (Kd.R_reads' HO488.out).2.1); (case side3 => repeat (first | exact (Kd.R_reads' HO492.out).2.2 | (with_reducible refine Kd.C_alloc ?_ _) | (with_reducible refine Kd.C_drewN ?_ _) | (with_reducible refine Kd.C_drew ?_))); (case side4 => exact (Kd.R_reads' HO492.out).2.1); rintro e w' ⟨rfl, ⟨nd, rfl⟩⟩))
        go_ret
        exact ⟨er_, hb_⟩
      ·
       replace c27 := Bool.eq_false_iff.mpr c27
       subst c27
       have H1 : (some false) = some r := by rw [if_neg (show ¬ (false = true) by decide)] at H; exact H
       clear H
       have H := H1
       clear H1
       obtain rfl := Option.some.inj H
       have hcz52_0 := bc0 BK483
       have hcz52_1 := bc1 BK483
       have hcz52_2 := bc2 BK483
       have hcz52_3 := bc3 BK483
       have hcz52_4 := bc4 BK483
       have hcz52_5 := bc5 BK483
       have hfz52_0 := blk_frozen BK483.out 0
       have hfz52_1 := blk_frozen BK483.out 1
       have hfz52_2 := blk_frozen BK483.out 2
       have hfz52_3 := blk_frozen BK483.out 3
       have hfz52_4 := blk_frozen BK483.out 4
       have hfz52_5 := blk_frozen BK483.out 5
       go_wp2_with (first | ((with_reducible refine gate_callee (f := 28) rfl ?_); refine goesL_ (some 36) rfl rfl Try.func28 (by kernel_rfl) rfl #[.agg #[.int .i64 a0_0, .slice A0_1 l0_1.length c0_1, .int .i64 a0_2, .int .i64 a0_3, .slice A0_4 l0_4.length c0_4, .slice A0_5 l0_5.length c0_5], .slice A1 l1.length c1] rfl am_ ?_; (with_reducible refine (conflict_Largest.calls kj4 a0_0 _ _ l0_1 a0_2 a0_3 _ _ l0_4 _ _ l0_5 _ _ l1 t486 t489 _ ?side1 ?side2 ?side3 ?side4 ?side5 ?side6 ?side7 ?side8 A21.out).mono ?_); (case side1 | side3 | side5 | side7 => exact cb_); (case side2 | side4 | side6 | side8 => first | exact HC0_1.out | exact HC0_4.out | exact HC0_5.out | exact HC1.out); rintro e w53 ⟨v487, rfl, ho0, hb⟩; refine ⟨_, rfl, ?_⟩; have n0_ := Aside0.mk (Kd.R_lower ho0 (below_size hb_)); have n1_ := bk_ BK483 hb; have n2_ := Aside0.mk (below_step hb_ hb); clear BK483; clear HB; have HO488 := n0_; have BK483 := n1_; have HB := n2_; clear n0_ n1_ n2_; (try clear hb); (try clear hb2); (try clear hk); (try clear hi); (try clear ho0); have hcz54_0 := bc0 BK483; have hcz54_1 := bc1 BK483; have hcz54_2 := bc2 BK483; have hcz54_3 := bc3 BK483; have hcz54_4 := bc4 BK483; have hcz54_5 := bc5 BK483; have hfz54_0 := blk_frozen BK483.out 0; have hfz54_1 := blk_frozen BK483.out 1; have hfz54_2 := blk_frozen BK483.out 2; have hfz54_3 := blk_frozen BK483.out 3; have hfz54_4 := blk_frozen BK483.out 4; have hfz54_5 := blk_frozen BK483.out 5) | ((with_reducible refine gate_callee (f := 30) rfl ?_); refine goesL_ (some 42) rfl rfl Try.func30 (by kernel_rfl) rfl #[.agg #[.int .i64 a0_0, .slice A0_1 l0_1.length c0_1, .int .i64 a0_2, .int .i64 a0_3, .slice A0_4 l0_4.length c0_4, .slice A0_5 l0_5.length c0_5], .slice A1 l1.length c1] rfl am_ ?_; (with_reducible refine (hopmeshref34_Largest.calls kj4 a0_0 _ _ l0_1 a0_2 a0_3 _ _ l0_4 _ _ l0_5 _ _ l1 t490 t493 _ ?side1 ?side2 ?side3 ?side4 ?side5 ?side6 ?side7 ?side8 A22.out).mono ?_); (case side1 | side3 | side5 | side7 => exact cb_); (case side2 | side4 | side6 | side8 => first | exact HC0_1.out | exact HC0_4.out | exact HC0_5.out | exact HC1.out); rintro e w55 ⟨v491, rfl, ho0, hb⟩; refine ⟨_, rfl, ?_⟩; have n0_ := Aside0.mk (Kd.R_elder' (kr_ HO488) (Kd.R_base ho0) hb); have n1_ := Aside0.mk (Kd.R_lower (Kd.R_new' ho0 (Kd.R_lt (kr_ HO488))) (below_size hb_)); have n2_ := bk_ BK483 hb; have n3_ := Aside0.mk (below_step hb_ hb); clear HO488; clear BK483; clear HB; have HO488 := n0_; have HO492 := n1_; have BK483 := n2_; have HB := n3_; clear n0_ n1_ n2_ n3_; (try clear hb); (try clear hb2); (try clear hk); (try clear hi); (try clear ho0); have hcz56_0 := bc0 BK483; have hcz56_1 := bc1 BK483; have hcz56_2 := bc2 BK483; have hcz56_3 := bc3 BK483; have hcz56_4 := bc4 BK483; have hcz56_5 := bc5 BK483; have hfz56_0 := blk_frozen BK483.out 0; have hfz56_1 := blk_frozen BK483.out 1; have hfz56_2 := blk_frozen BK483.out 2; have hfz56_3 := blk_frozen BK483.out 3; have hfz56_4 := blk_frozen BK483.out 4; have hfz56_5 := blk_frozen BK483.out 5) | ((with_reducible refine gate_callee (f := 31) rfl ?_); refine goesL_ (some 48) rfl rfl Try.func31 (by kernel_rfl) rfl #[.agg #[.int .i64 a0_0, .slice A0_1 l0_1.length c0_1, .int .i64 a0_2, .int .i64 a0_3, .slice A0_4 l0_4.length c0_4, .slice A0_5 l0_5.length c0_5], .slice A1 l1.length c1] rfl am_ ?_; (with_reducible refine (conflict_Pairs.calls kj4 a0_0 _ _ l0_1 a0_2 a0_3 _ _ l0_4 _ _ l0_5 _ _ l1 t494 t497 _ ?side1 ?side2 ?side3 ?side4 ?side5 ?side6 ?side7 ?side8 A23.out).mono ?_); (case side1 | side3 | side5 | side7 => exact cb_); (case side2 | side4 | side6 | side8 => first | exact HC0_1.out | exact HC0_4.out | exact HC0_5.out | exact HC1.out); rintro e w57 ⟨v495, rfl, ho0, hb⟩; refine ⟨_, rfl, ?_⟩; have n0_ := Aside0.mk (Kd.R_below (kr_ HO488) hb); have n1_ := Aside0.mk (Kd.R_below (kr_ HO492) hb); have n2_ := Aside0.mk (Kd.R_lower ho0 (below_size hb_)); have n3_ := bk_ BK483 hb; have n4_ := Aside0.mk (below_step hb_ hb); clear HO488; clear HO492; clear BK483; clear HB; have HO488 := n0_; have HO492 := n1_; have HO496 := n2_; have BK483 := n3_; have HB := n4_; clear n0_ n1_ n2_ n3_ n4_; (try clear hb); (try clear hb2); (try clear hk); (try clear hi); (try clear ho0); have hcz58_0 := bc0 BK483; have hcz58_1 := bc1 BK483; have hcz58_2 := bc2 BK483; have hcz58_3 := bc3 BK483; have hcz58_4 := bc4 BK483; have hcz58_5 := bc5 BK483; have hfz58_0 := blk_frozen BK483.out 0; have hfz58_1 := blk_frozen BK483.out 1; have hfz58_2 := blk_frozen BK483.out 2; have hfz58_3 := blk_frozen BK483.out 3; have hfz58_4 := blk_frozen BK483.out 4; have hfz58_5 := blk_frozen BK483.out 5) | ((with_reducible refine gate_callee (f := 32) rfl ?_); refine goesL_ (some 54) rfl rfl Try.func32 (by kernel_rfl) rfl #[.agg #[.int .i64 a0_0, .slice A0_1 l0_1.length c0_1, .int .i64 a0_2, .int .i64 a0_3, .slice A0_4 l0_4.length c0_4, .slice A0_5 l0_5.length c0_5], .slice A1 l1.length c1] rfl am_ ?_; (with_reducible refine (hopmeshref34_Pairs.calls kj4 a0_0 _ _ l0_1 a0_2 a0_3 _ _ l0_4 _ _ l0_5 _ _ l1 t498 t501 _ ?side1 ?side2 ?side3 ?side4 ?side5 ?side6 ?side7 ?side8 A24.out).mono ?_); (case side1 | side3 | side5 | side7 => exact cb_); (case side2 | side4 | side6 | side8 => first | exact HC0_1.out | exact HC0_4.out | exact HC0_5.out | exact HC1.out); rintro e w59 ⟨v499, rfl, ho0, hb⟩; refine ⟨_, rfl, ?_⟩; have n0_ := Aside0.mk (Kd.R_below (kr_ HO488) hb); have n1_ := Aside0.mk (Kd.R_below (kr_ HO492) hb); have n2_ := Aside0.mk (Kd.R_elder' (kr_ HO496) (Kd.R_base ho0) hb); have n3_ := Aside0.mk (Kd.R_lower (Kd.R_new' ho0 (Kd.R_lt (kr_ HO496))) (below_size hb_)); have n4_ := bk_ BK483 hb; have n5_ := Aside0.mk (below_step hb_ hb); clear HO488; clear HO492; clear HO496; clear BK483; clear HB; have HO488 := n0_; have HO492 := n1_; have HO496 := n2_; have HO500 := n3_; have BK483 := n4_; have HB := n5_; clear n0_ n1_ n2_ n3_ n4_ n5_; (try clear hb); (try clear hb2); (try clear hk); (try clear hi); (try clear ho0); obtain ⟨Ao60, co60, eo60⟩ := Kd.R_slice HO488.out; subst eo60; obtain ⟨Ao61, co61, eo61⟩ := Kd.R_slice HO492.out; subst eo61) | (go_at_call 33; (with_reducible refine (slices_Equal_int_int.calls kj4 _ _ t486 _ _ t490 false _ ?side1 ?side2 ?side3 ?side4 A26.out).mono ?_); (case side1 => repeat (first | exact (Kd.R_reads' HO488.out).2.2 | (with_reducible refine Kd.C_alloc ?_ _) | (with_reducible refine Kd.C_drewN ?_ _) | (with_reducible refine Kd.C_drew ?_))); (case side2 => exact (Kd.R_reads' HO488.out).2.1); (case side3 => repeat (first | exact (Kd.R_reads' HO492.out).2.2 | (with_reducible refine Kd.C_alloc ?_ _) | (with_reducible refine Kd.C_drewN ?_ _) | (with_reducible refine Kd.C_drew ?_))); (case side4 => exact (Kd.R_reads' HO492.out).2.1); rintro e w' ⟨rfl, ⟨nd, rfl⟩⟩))
       go_ret
       exact ⟨er_, hb_⟩
     ·
      rw [if_neg c25] at H
      have c25b0 : (t489 == t493) = false := beq_eq_false_iff_ne.mpr c25
      have c25b1 : (t489 != t493) = true := bne_iff_ne.mpr c25
      obtain rfl := Option.some.inj H
      have hcz62_0 := bc0 BK483
      have hcz62_1 := bc1 BK483
      have hcz62_2 := bc2 BK483
      have hcz62_3 := bc3 BK483
      have hcz62_4 := bc4 BK483
      have hcz62_5 := bc5 BK483
      have hfz62_0 := blk_frozen BK483.out 0
      have hfz62_1 := blk_frozen BK483.out 1
      have hfz62_2 := blk_frozen BK483.out 2
      have hfz62_3 := blk_frozen BK483.out 3
      have hfz62_4 := blk_frozen BK483.out 4
      have hfz62_5 := blk_frozen BK483.out 5
      go_wp2_with (first | ((with_reducible refine gate_callee (f := 28) rfl ?_); refine goesL_ (some 36) rfl rfl Try.func28 (by kernel_rfl) rfl #[.agg #[.int .i64 a0_0, .slice A0_1 l0_1.length c0_1, .int .i64 a0_2, .int .i64 a0_3, .slice A0_4 l0_4.length c0_4, .slice A0_5 l0_5.length c0_5], .slice A1 l1.length c1] rfl am_ ?_; (with_reducible refine (conflict_Largest.calls kj4 a0_0 _ _ l0_1 a0_2 a0_3 _ _ l0_4 _ _ l0_5 _ _ l1 t486 t489 _ ?side1 ?side2 ?side3 ?side4 ?side5 ?side6 ?side7 ?side8 A21.out).mono ?_); (case side1 | side3 | side5 | side7 => exact cb_); (case side2 | side4 | side6 | side8 => first | exact HC0_1.out | exact HC0_4.out | exact HC0_5.out | exact HC1.out); rintro e w63 ⟨v487, rfl, ho0, hb⟩; refine ⟨_, rfl, ?_⟩; have n0_ := Aside0.mk (Kd.R_lower ho0 (below_size hb_)); have n1_ := bk_ BK483 hb; have n2_ := Aside0.mk (below_step hb_ hb); clear BK483; clear HB; have HO488 := n0_; have BK483 := n1_; have HB := n2_; clear n0_ n1_ n2_; (try clear hb); (try clear hb2); (try clear hk); (try clear hi); (try clear ho0); have hcz64_0 := bc0 BK483; have hcz64_1 := bc1 BK483; have hcz64_2 := bc2 BK483; have hcz64_3 := bc3 BK483; have hcz64_4 := bc4 BK483; have hcz64_5 := bc5 BK483; have hfz64_0 := blk_frozen BK483.out 0; have hfz64_1 := blk_frozen BK483.out 1; have hfz64_2 := blk_frozen BK483.out 2; have hfz64_3 := blk_frozen BK483.out 3; have hfz64_4 := blk_frozen BK483.out 4; have hfz64_5 := blk_frozen BK483.out 5) | ((with_reducible refine gate_callee (f := 30) rfl ?_); refine goesL_ (some 42) rfl rfl Try.func30 (by kernel_rfl) rfl #[.agg #[.int .i64 a0_0, .slice A0_1 l0_1.length c0_1, .int .i64 a0_2, .int .i64 a0_3, .slice A0_4 l0_4.length c0_4, .slice A0_5 l0_5.length c0_5], .slice A1 l1.length c1] rfl am_ ?_; (with_reducible refine (hopmeshref34_Largest.calls kj4 a0_0 _ _ l0_1 a0_2 a0_3 _ _ l0_4 _ _ l0_5 _ _ l1 t490 t493 _ ?side1 ?side2 ?side3 ?side4 ?side5 ?side6 ?side7 ?side8 A22.out).mono ?_); (case side1 | side3 | side5 | side7 => exact cb_); (case side2 | side4 | side6 | side8 => first | exact HC0_1.out | exact HC0_4.out | exact HC0_5.out | exact HC1.out); rintro e w65 ⟨v491, rfl, ho0, hb⟩; refine ⟨_, rfl, ?_⟩; have n0_ := Aside0.mk (Kd.R_elder' (kr_ HO488) (Kd.R_base ho0) hb); have n1_ := Aside0.mk (Kd.R_lower (Kd.R_new' ho0 (Kd.R_lt (kr_ HO488))) (below_size hb_)); have n2_ := bk_ BK483 hb; have n3_ := Aside0.mk (below_step hb_ hb); clear HO488; clear BK483; clear HB; have HO488 := n0_; have HO492 := n1_; have BK483 := n2_; have HB := n3_; clear n0_ n1_ n2_ n3_; (try clear hb); (try clear hb2); (try clear hk); (try clear hi); (try clear ho0); have hcz66_0 := bc0 BK483; have hcz66_1 := bc1 BK483; have hcz66_2 := bc2 BK483; have hcz66_3 := bc3 BK483; have hcz66_4 := bc4 BK483; have hcz66_5 := bc5 BK483; have hfz66_0 := blk_frozen BK483.out 0; have hfz66_1 := blk_frozen BK483.out 1; have hfz66_2 := blk_frozen BK483.out 2; have hfz66_3 := blk_frozen BK483.out 3; have hfz66_4 := blk_frozen BK483.out 4; have hfz66_5 := blk_frozen BK483.out 5) | ((with_reducible refine gate_callee (f := 31) rfl ?_); refine goesL_ (some 48) rfl rfl Try.func31 (by kernel_rfl) rfl #[.agg #[.int .i64 a0_0, .slice A0_1 l0_1.length c0_1, .int .i64 a0_2, .int .i64 a0_3, .slice A0_4 l0_4.length c0_4, .slice A0_5 l0_5.length c0_5], .slice A1 l1.length c1] rfl am_ ?_; (with_reducible refine (conflict_Pairs.calls kj4 a0_0 _ _ l0_1 a0_2 a0_3 _ _ l0_4 _ _ l0_5 _ _ l1 t494 t497 _ ?side1 ?side2 ?side3 ?side4 ?side5 ?side6 ?side7 ?side8 A23.out).mono ?_); (case side1 | side3 | side5 | side7 => exact cb_); (case side2 | side4 | side6 | side8 => first | exact HC0_1.out | exact HC0_4.out | exact HC0_5.out | exact HC1.out); rintro e w67 ⟨v495, rfl, ho0, hb⟩; refine ⟨_, rfl, ?_⟩; have n0_ := Aside0.mk (Kd.R_below (kr_ HO488) hb); have n1_ := Aside0.mk (Kd.R_below (kr_ HO492) hb); have n2_ := Aside0.mk (Kd.R_lower ho0 (below_size hb_)); have n3_ := bk_ BK483 hb; have n4_ := Aside0.mk (below_step hb_ hb); clear HO488; clear HO492; clear BK483; clear HB; have HO488 := n0_; have HO492 := n1_; have HO496 := n2_; have BK483 := n3_; have HB := n4_; clear n0_ n1_ n2_ n3_ n4_; (try clear hb); (try clear hb2); (try clear hk); (try clear hi); (try clear ho0); have hcz68_0 := bc0 BK483; have hcz68_1 := bc1 BK483; have hcz68_2 := bc2 BK483; have hcz68_3 := bc3 BK483; have hcz68_4 := bc4 BK483; have hcz68_5 := bc5 BK483; have hfz68_0 := blk_frozen BK483.out 0; have hfz68_1 := blk_frozen BK483.out 1; have hfz68_2 := blk_frozen BK483.out 2; have hfz68_3 := blk_frozen BK483.out 3; have hfz68_4 := blk_frozen BK483.out 4; have hfz68_5 := blk_frozen BK483.out 5) | ((with_reducible refine gate_callee (f := 32) rfl ?_); refine goesL_ (some 54) rfl rfl Try.func32 (by kernel_rfl) rfl #[.agg #[.int .i64 a0_0, .slice A0_1 l0_1.length c0_1, .int .i64 a0_2, .int .i64 a0_3, .slice A0_4 l0_4.length c0_4, .slice A0_5 l0_5.length c0_5], .slice A1 l1.length c1] rfl am_ ?_; (with_reducible refine (hopmeshref34_Pairs.calls kj4 a0_0 _ _ l0_1 a0_2 a0_3 _ _ l0_4 _ _ l0_5 _ _ l1 t498 t501 _ ?side1 ?side2 ?side3 ?side4 ?side5 ?side6 ?side7 ?side8 A24.out).mono ?_); (case side1 | side3 | side5 | side7 => exact cb_); (case side2 | side4 | side6 | side8 => first | exact HC0_1.out | exact HC0_4.out | exact HC0_5.out | exact HC1.out); rintro e w69 ⟨v499, rfl, ho0, hb⟩; refine ⟨_, rfl, ?_⟩; have n0_ := Aside0.mk (Kd.R_below (kr_ HO488) hb); have n1_ := Aside0.mk (Kd.R_below (kr_ HO492) hb); have n2_ := Aside0.mk (Kd.R_elder' (kr_ HO496) (Kd.R_base ho0) hb); have n3_ := Aside0.mk (Kd.R_lower (Kd.R_new' ho0 (Kd.R_lt (kr_ HO496))) (below_size hb_)); have n4_ := bk_ BK483 hb; have n5_ := Aside0.mk (below_step hb_ hb); clear HO488; clear HO492; clear HO496; clear BK483; clear HB; have HO488 := n0_; have HO492 := n1_; have HO496 := n2_; have HO500 := n3_; have BK483 := n4_; have HB := n5_; clear n0_ n1_ n2_ n3_ n4_ n5_; (try clear hb); (try clear hb2); (try clear hk); (try clear hi); (try clear ho0)))
      go_ret
      exact ⟨er_, hb_⟩
 ·
  replace c4 := Bool.eq_false_iff.mpr c4
  subst c4
  have H1 : (some false) = some r := by rw [if_neg (show ¬ (false = true) by decide)] at H; exact H
  clear H
  have H := H1
  clear H1
  obtain rfl := Option.some.inj H
  go_enter Try.func10, Try.ntmps10
  go_wp2_with (first | ((with_reducible refine gate_dst (N := 2) rfl ?_); refine bx_ 2 #[.int .i64 a0_0, .slice A0_1 l0_1.length c0_1, .int .i64 a0_2, .int .i64 a0_3, .slice A0_4 l0_4.length c0_4, .slice A0_5 l0_5.length c0_5] 26 ?_; intro gb483 hg w70 hbox hb; have n0_ := Aside0.mk (below_step hb_ hb); have n1_ := Aside0.mk (hbox); have n2_ := Aside0.mk ((by rw [hg]; exact (below_size hb_) : w.heap.size ≤ gb483)); have n3_ := Aside0.mk ((by rw [hg]; exact (below_size hb_) : w.heap.size ≤ gb483)); clear HB; have HB := n0_; have BK483 := n1_; have GW483 := n2_; have GE483 := n3_; clear n0_ n1_ n2_ n3_; clear hb hbox hg) | ((with_reducible refine gate_callee (f := 11) rfl ?_); refine goesL_ (some 13) rfl rfl Try.func11 (by kernel_rfl) rfl #[] rfl am_ ?_; (with_reducible refine (hopmeshlaw34_awake.calls  false _ A3.out).mono ?_); rintro e w71 ⟨rfl, hb⟩; refine ⟨_, rfl, ?_⟩; have n0_ := bk_ BK483 hb; have n1_ := Aside0.mk (below_step hb_ hb); clear BK483; clear HB; have BK483 := n0_; have HB := n1_; clear n0_ n1_; (try clear hb); (try clear hb2); (try clear hk); (try clear hi)))
  go_ret
  exact ⟨er_, hb_⟩

end Go.Proofs.Ytibgcekekmphoaa.P34
