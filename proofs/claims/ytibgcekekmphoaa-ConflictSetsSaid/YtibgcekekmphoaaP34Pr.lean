-- Written by a program of this session (wip/tools) over the kit's print; Lean checks it.
import Derived.Test.YtibgcekekmphoaaP340
import Derived.Test.YtibgcekekmphoaaP34C
import Derived.Test.YtibgcekekmphoaaP34Ct
namespace Go.Proofs.Ytibgcekekmphoaa.P34
open Go.RowKit Go.Proofs.YtibgcekekmphoaaW.PrintWords Go.Proofs.YtibgcekekmphoaaW.PrintLast Go.Proofs.YtibgcekekmphoaaW.PrintMore
attribute [local go_sem] max2_int min2_int max_two min_two max_three min_three max_four min_four   -- for this text's walks alone
set_option linter.unusedVariables false
set_option linter.unusedSimpArgs false

/-! ### hopmeshref34_Pairs: function 32 -/
mutual
def hopmeshref34_Pairs.l0 : Nat → List (S44) → List (S63) → Int → Int → List (List Int) → Int → Int → List (S44) → List Int → Option ((List (S63)) × Int)
 | 0, _, _, _, _, _, _, _, _, _ => none
 | k + 1, x1, x6, x7, x469000, x469001, x469002, x469003, x469004, x469005 => if x7 < (x1.length : Int) then (hopmeshref34_Pairs.l1 k x1 x6 x7 (wrap64 (x7 + 1)) x469000 x469001 x469002 x469003 x469004 x469005) else (some (x6, 0))
def hopmeshref34_Pairs.l1 : Nat → List (S44) → List (S63) → Int → Int → Int → List (List Int) → Int → Int → List (S44) → List Int → Option ((List (S63)) × Int)
 | 0, _, _, _, _, _, _, _, _, _, _ => none
 | k + 1, x1, x6, x7, x8, x469000, x469001, x469002, x469003, x469004, x469005 => if x8 < (x1.length : Int) then (if 0 ≤ x7 then (if x7 < (x1.length : Int) then (if 0 ≤ x8 then ((hopmeshref34_Together.f k x469000 x469001 x469002 x469003 x469004 x469005 ((rd_T44 x1 x7).f0) ((rd_T44 x1 x7).f1) ((rd_T44 x1 x7).f2) ((rd_T44 x1 x8).f0) ((rd_T44 x1 x8).f1) ((rd_T44 x1 x8).f2)).bind fun t475 => (if t475 = true then (hopmeshref34_Pairs.l1 k x1 x6 x7 (wrap64 (x8 + 1)) x469000 x469001 x469002 x469003 x469004 x469005) else (if x6.length < 8796093022208 then (hopmeshref34_Pairs.l1 k x1 (x6 ++ [(⟨x7, x8⟩ : S63)]) x7 (wrap64 (x8 + 1)) x469000 x469001 x469002 x469003 x469004 x469005) else (none)))) else (none)) else (none)) else (none)) else (hopmeshref34_Pairs.l0 k x1 x6 (wrap64 (x7 + 1)) x469000 x469001 x469002 x469003 x469004 x469005)
end
def hopmeshref34_Pairs.f (k : Nat) (a0_0 : Int) (l0_1 : List (List Int)) (a0_2 : Int) (a0_3 : Int) (l0_4 : List (S44)) (l0_5 : List Int) (l1 : List (S44)) : Option ((List (S63)) × Int) := (hopmeshref31_Check.f k a0_0 l0_1 a0_2 a0_3 l0_4 l0_5).bind fun t469 => (if t469 = 0 then (if (l1.length : Int) > 45 then (some (([] : List (S63)), 8)) else (hopmeshref34_Pairs.l0 k l1 (([] : List (S63))) 0 a0_0 l0_1 a0_2 a0_3 l0_4 l0_5)) else (some (([] : List (S63)), 1)))
theorem hopmeshref34_Pairs.mono_l : ∀ k, (∀ y0 y1 y2 y3 y4 y5 y6 y7 y8, LeO (hopmeshref34_Pairs.l0 k y0 y1 y2 y3 y4 y5 y6 y7 y8) (hopmeshref34_Pairs.l0 (k + 1) y0 y1 y2 y3 y4 y5 y6 y7 y8)) ∧ (∀ y0 y1 y2 y3 y4 y5 y6 y7 y8 y9, LeO (hopmeshref34_Pairs.l1 k y0 y1 y2 y3 y4 y5 y6 y7 y8 y9) (hopmeshref34_Pairs.l1 (k + 1) y0 y1 y2 y3 y4 y5 y6 y7 y8 y9))
 | 0 => ⟨fun _ _ _ _ _ _ _ _ _ r h => by simp [hopmeshref34_Pairs.l0] at h, fun _ _ _ _ _ _ _ _ _ _ r h => by simp [hopmeshref34_Pairs.l1] at h⟩
 | k + 1 => by
  obtain ⟨ih0, ih1⟩ := hopmeshref34_Pairs.mono_l k
  refine ⟨?_, ?_⟩
  ·
   intro y0 y1 y2 y3 y4 y5 y6 y7 y8
   unfold hopmeshref34_Pairs.l0
   repeat' first
   | (with_reducible exact ih0 _ _ _ _ _ _ _ _ _)
   | (with_reducible exact ih1 _ _ _ _ _ _ _ _ _ _)
   | (with_reducible exact hopmeshref31_Check.mono _ _ _ _ _ _ _)
   | (with_reducible exact hopmeshref34_Together.mono _ _ _ _ _ _ _ _ _ _ _ _ _)
   | (with_reducible exact LeO.refl _)
   | (with_reducible exact LeO.none _)
   | (with_reducible refine LeO.ite ?_ ?_)
   | (with_reducible refine LeO.bind ?_ (fun _ => ?_))
   | exact ih0 _ _ _ _ _ _ _ _ _
   | exact ih1 _ _ _ _ _ _ _ _ _ _
   | exact hopmeshref31_Check.mono _ _ _ _ _ _ _
   | exact hopmeshref34_Together.mono _ _ _ _ _ _ _ _ _ _ _ _ _
   | exact LeO.none _
   | refine LeO.ite ?_ ?_
   | refine LeO.bind ?_ (fun _ => ?_)
  ·
   intro y0 y1 y2 y3 y4 y5 y6 y7 y8 y9
   unfold hopmeshref34_Pairs.l1
   repeat' first
   | (with_reducible exact ih0 _ _ _ _ _ _ _ _ _)
   | (with_reducible exact ih1 _ _ _ _ _ _ _ _ _ _)
   | (with_reducible exact hopmeshref31_Check.mono _ _ _ _ _ _ _)
   | (with_reducible exact hopmeshref34_Together.mono _ _ _ _ _ _ _ _ _ _ _ _ _)
   | (with_reducible exact LeO.refl _)
   | (with_reducible exact LeO.none _)
   | (with_reducible refine LeO.ite ?_ ?_)
   | (with_reducible refine LeO.bind ?_ (fun _ => ?_))
   | exact ih0 _ _ _ _ _ _ _ _ _
   | exact ih1 _ _ _ _ _ _ _ _ _ _
   | exact hopmeshref31_Check.mono _ _ _ _ _ _ _
   | exact hopmeshref34_Together.mono _ _ _ _ _ _ _ _ _ _ _ _ _
   | exact LeO.none _
   | refine LeO.ite ?_ ?_
   | refine LeO.bind ?_ (fun _ => ?_)
theorem hopmeshref34_Pairs.mono : ∀ a0 a1 a2 a3 a4 a5 a6 k, LeO (hopmeshref34_Pairs.f k a0 a1 a2 a3 a4 a5 a6) (hopmeshref34_Pairs.f (k + 1) a0 a1 a2 a3 a4 a5 a6) := by
 intro a0 a1 a2 a3 a4 a5 a6 k
 obtain ⟨ih0, ih1⟩ := hopmeshref34_Pairs.mono_l k
 unfold hopmeshref34_Pairs.f
 repeat' first
   | (with_reducible exact ih0 _ _ _ _ _ _ _ _ _)
   | (with_reducible exact ih1 _ _ _ _ _ _ _ _ _ _)
   | (with_reducible exact hopmeshref31_Check.mono _ _ _ _ _ _ _)
   | (with_reducible exact hopmeshref34_Together.mono _ _ _ _ _ _ _ _ _ _ _ _ _)
   | (with_reducible exact LeO.refl _)
   | (with_reducible exact LeO.none _)
   | (with_reducible refine LeO.ite ?_ ?_)
   | (with_reducible refine LeO.bind ?_ (fun _ => ?_))
   | exact ih0 _ _ _ _ _ _ _ _ _
   | exact ih1 _ _ _ _ _ _ _ _ _ _
   | exact hopmeshref31_Check.mono _ _ _ _ _ _ _
   | exact hopmeshref34_Together.mono _ _ _ _ _ _ _ _ _ _ _ _ _
   | exact LeO.none _
   | refine LeO.ite ?_ ?_
   | refine LeO.bind ?_ (fun _ => ?_)
def hopmeshref34_Pairs.T12 : Bool × List (List Nat × List Nat) := (true, [([], []), ([], []), ([], []), ([1, 2], [1, 2]), ([3], [3]), ([], []), ([], []), ([5, 6], [5, 6]), ([7], [7]), ([0, 4, 8], [0, 4, 8]), ([9], [9])])
def hopmeshref34_Pairs.B12 : List Nat := [0, 0, 0, 6, 14, 0, 0, 96, 224, 511, 1023]
theorem hopmeshref34_Pairs.tab12 : rtab .any (opsOf Try.f32 12) = hopmeshref34_Pairs.T12 := by kernel_rfl
theorem hopmeshref34_Pairs.bits12 : waitsOk hopmeshref34_Pairs.T12.2 hopmeshref34_Pairs.B12 = true := by kernel_rfl
set_option maxHeartbeats 8000000 in
set_option maxRecDepth 100000 in
theorem hopmeshref34_Pairs.calls (k : Nat) (a0_0 : Int) (A0_1 : Option Addr) (c0_1 : Nat) (l0_1 : List (List Int)) (a0_2 : Int) (a0_3 : Int) (A0_4 : Option Addr) (c0_4 : Nat) (l0_4 : List (S44)) (A0_5 : Option Addr) (c0_5 : Nat) (l0_5 : List Int) (A1 : Option Addr) (c1 : Nat) (l1 : List (S44)) (r1 : List (S63)) (r2 : Int) (w : World) (hr0_1 : Kd.C (Kd.slice 3 (Kd.int .i64)) w A0_1 l0_1.length l0_1) (hc0_1 : l0_1.length ≤ c0_1) (hr0_4 : Kd.C k44 w A0_4 l0_4.length l0_4) (hc0_4 : l0_4.length ≤ c0_4) (hr0_5 : Kd.C (Kd.int .i64) w A0_5 l0_5.length l0_5) (hc0_5 : l0_5.length ≤ c0_5) (hr1 : Kd.C k44 w A1 l1.length l1) (hc1 : l1.length ≤ c1) (h : hopmeshref34_Pairs.f k a0_0 l0_1 a0_2 a0_3 l0_4 l0_5 l1 = some (r1, r2)) :
  Calls Try.prog 32 #[.agg #[.int .i64 a0_0, .slice A0_1 l0_1.length c0_1, .int .i64 a0_2, .int .i64 a0_3, .slice A0_4 l0_4.length c0_4, .slice A0_5 l0_5.length c0_5], .slice A1 l1.length c1] w fun e w' => ∃ v0_ : Value, e = .returned (.tuple #[v0_, .int .i64 r2]) ∧ Kd.R k63 63 w' w.heap.size (fun _ => True) v0_ r1 ∧ Below w.heap.size w w' := by
 have hu26 := Try.underlying26
 have hu44 := Try.underlying44
 have hu63 := Try.underlying63
 have HR0_1 := Aside0.mk hr0_1
 have HC0_1 := Aside0.mk hc0_1
 clear hr0_1 hc0_1
 have HR0_4 := Aside0.mk hr0_4
 have HC0_4 := Aside0.mk hc0_4
 clear hr0_4 hc0_4
 have HR0_5 := Aside0.mk hr0_5
 have HC0_5 := Aside0.mk hc0_5
 clear hr0_5 hc0_5
 have HR1 := Aside0.mk hr1
 have HC1 := Aside0.mk hc1
 clear hr1 hc1
 have HB := Aside0.mk (Below.refl w.heap.size w)
 have H : ((hopmeshref31_Check.f k a0_0 l0_1 a0_2 a0_3 l0_4 l0_5).bind fun t469 => (if t469 = 0 then (if (l1.length : Int) > 45 then (some (([] : List (S63)), 8)) else (hopmeshref34_Pairs.l0 k l1 (([] : List (S63))) 0 a0_0 l0_1 a0_2 a0_3 l0_4 l0_5)) else (some (([] : List (S63)), 1)))) = some (r1, r2) := h
 clear h
 replace H := Option.bind_eq_some_iff.mp H
 obtain ⟨t469, A30, H⟩ := H
 replace H : (if t469 = 0 then (if (l1.length : Int) > 45 then (some (([] : List (S63)), 8)) else (hopmeshref34_Pairs.l0 k l1 (([] : List (S63))) 0 a0_0 l0_1 a0_2 a0_3 l0_4 l0_5)) else (some (([] : List (S63)), 1))) = some (r1, r2) := H
 have A3 := Aside0.mk A30
 clear A30
 by_cases c4 : t469 = 0
 ·
  rw [if_pos c4] at H
  have c4b0 : (t469 == 0) = true := beq_iff_eq.mpr c4
  have c4b1 : (t469 != 0) = false := bne_eq_false_iff_eq.mpr c4
  clear c4
  by_cases c5 : (l1.length : Int) > 45
  ·
   rw [if_pos c5] at H
   have c5b0 : decide (45 < (l1.length : Int)) = true := decide_eq_true c5
   have c5b1 : decide (45 < l1.length) = true := decide_eq_true (by omega)
   clear c5
   simp only [Option.some.injEq, Prod.mk.injEq] at H
   obtain ⟨rfl, rfl⟩ := H
   go_enter Try.func32, Try.ntmps32
   go_wp2_with (first | ((with_reducible refine gate_dst (N := 2) rfl ?_); refine bx_ 2 #[.int .i64 a0_0, .slice A0_1 l0_1.length c0_1, .int .i64 a0_2, .int .i64 a0_3, .slice A0_4 l0_4.length c0_4, .slice A0_5 l0_5.length c0_5] 26 ?_; intro gb468 hg w6 hbox hb; have n0_ := Aside0.mk (below_step hb_ hb); have n1_ := Aside0.mk (hbox); have n2_ := Aside0.mk ((by rw [hg]; exact (below_size hb_) : w.heap.size ≤ gb468)); have n3_ := Aside0.mk ((by rw [hg]; exact (below_size hb_) : w.heap.size ≤ gb468)); clear HB; have HB := n0_; have BK468 := n1_; have GW468 := n2_; have GE468 := n3_; clear n0_ n1_ n2_ n3_; clear hb hbox hg; have hcz7_0 := bc0 BK468; have hcz7_1 := bc1 BK468; have hcz7_2 := bc2 BK468; have hcz7_3 := bc3 BK468; have hcz7_4 := bc4 BK468; have hcz7_5 := bc5 BK468; have hfz7_0 := blk_frozen BK468.out 0; have hfz7_1 := blk_frozen BK468.out 1; have hfz7_2 := blk_frozen BK468.out 2; have hfz7_3 := blk_frozen BK468.out 3; have hfz7_4 := blk_frozen BK468.out 4; have hfz7_5 := blk_frozen BK468.out 5) | ((with_reducible refine gate_callee (f := 40) rfl ?_); refine goesL_ (some 10) rfl rfl Try.func40 (by kernel_rfl) rfl #[.agg #[.int .i64 a0_0, .slice A0_1 l0_1.length c0_1, .int .i64 a0_2, .int .i64 a0_3, .slice A0_4 l0_4.length c0_4, .slice A0_5 l0_5.length c0_5]] rfl am_ ?_; (with_reducible refine (hopmeshref31_Check.calls k a0_0 _ _ l0_1 a0_2 a0_3 _ _ l0_4 _ _ l0_5 t469 _ ?side1 ?side2 ?side3 ?side4 ?side5 ?side6 A3.out).mono ?_); (case side1 | side3 | side5 => exact cb_); (case side2 | side4 | side6 => first | exact HC0_1.out | exact HC0_4.out | exact HC0_5.out); rintro e w8 ⟨rfl, hb⟩; refine ⟨_, rfl, ?_⟩; have n0_ := bk_ BK468 hb; have n1_ := Aside0.mk (below_step hb_ hb); clear BK468; clear HB; have BK468 := n0_; have HB := n1_; clear n0_ n1_; (try clear hb); (try clear hb2); (try clear hk); (try clear hi)))
   go_ret2
   exact ⟨_, by first | rfl | (simp [errW_none, errW_some] <;> rfl) | (simp [*, errW_none, errW_some] <;> rfl), by first | exact Kd.R_nil _ _ _ _ _ | exact Kd.N_nil _ _ _ _ _ | exact Kd.V_nil _ _ _ _ _ | exact Kd.Q_nil _ _ _ _ _ | exact Kd.S_nil _ _ _ _ _, hb_⟩
  ·
   rw [if_neg c5] at H
   have c5b0 : decide (45 < (l1.length : Int)) = false := decide_eq_false c5
   have c5b1 : decide (45 < l1.length) = false := decide_eq_false (by omega)
   clear c5
   obtain ⟨y470, hy470⟩ : ∃ y_ : List (S63), y_ = (([] : List (S63))) := ⟨_, rfl⟩
   replace H : (hopmeshref34_Pairs.l0 k l1 y470 0 a0_0 l0_1 a0_2 a0_3 l0_4 l0_5) = some (r1, r2) := by first | (rw [hy470]; with_reducible exact H) | (have H2_ := (Option.bind_some _ _).symm.trans H; rw [hy470]; with_reducible exact H2_) | (have H2_ := (Option.bind_some _ _).symm.trans H; with_reducible exact H2_) | with_reducible exact H | (rw [hy470]; exact H) | exact H
   have Ny470 := Aside0.mk hy470
   clear hy470
   have H' := Aside0.mk H
   clear H
   go_enter Try.func32, Try.ntmps32
   go_wp2_with (first | ((with_reducible refine gate_dst (N := 2) rfl ?_); refine bx_ 2 #[.int .i64 a0_0, .slice A0_1 l0_1.length c0_1, .int .i64 a0_2, .int .i64 a0_3, .slice A0_4 l0_4.length c0_4, .slice A0_5 l0_5.length c0_5] 26 ?_; intro gb468 hg w9 hbox hb; have n0_ := Aside0.mk (below_step hb_ hb); have n1_ := Aside0.mk (hbox); have n2_ := Aside0.mk ((by rw [hg]; exact (below_size hb_) : w.heap.size ≤ gb468)); have n3_ := Aside0.mk ((by rw [hg]; exact (below_size hb_) : w.heap.size ≤ gb468)); clear HB; have HB := n0_; have BK468 := n1_; have GW468 := n2_; have GE468 := n3_; clear n0_ n1_ n2_ n3_; clear hb hbox hg; have hcz10_0 := bc0 BK468; have hcz10_1 := bc1 BK468; have hcz10_2 := bc2 BK468; have hcz10_3 := bc3 BK468; have hcz10_4 := bc4 BK468; have hcz10_5 := bc5 BK468; have hfz10_0 := blk_frozen BK468.out 0; have hfz10_1 := blk_frozen BK468.out 1; have hfz10_2 := blk_frozen BK468.out 2; have hfz10_3 := blk_frozen BK468.out 3; have hfz10_4 := blk_frozen BK468.out 4; have hfz10_5 := blk_frozen BK468.out 5) | ((with_reducible refine gate_callee (f := 40) rfl ?_); refine goesL_ (some 10) rfl rfl Try.func40 (by kernel_rfl) rfl #[.agg #[.int .i64 a0_0, .slice A0_1 l0_1.length c0_1, .int .i64 a0_2, .int .i64 a0_3, .slice A0_4 l0_4.length c0_4, .slice A0_5 l0_5.length c0_5]] rfl am_ ?_; (with_reducible refine (hopmeshref31_Check.calls k a0_0 _ _ l0_1 a0_2 a0_3 _ _ l0_4 _ _ l0_5 t469 _ ?side1 ?side2 ?side3 ?side4 ?side5 ?side6 A3.out).mono ?_); (case side1 | side3 | side5 => exact cb_); (case side2 | side4 | side6 => first | exact HC0_1.out | exact HC0_4.out | exact HC0_5.out); rintro e w11 ⟨rfl, hb⟩; refine ⟨_, rfl, ?_⟩; have n0_ := bk_ BK468 hb; have n1_ := Aside0.mk (below_step hb_ hb); clear BK468; clear HB; have BK468 := n0_; have HB := n1_; clear n0_ n1_; (try clear hb); (try clear hb2); (try clear hk); (try clear hi)) | ((with_reducible refine gate_dst (N := 15) rfl ?_); refine Kd.R_lit k63 _ 63 ?hg (N := 15) ?hd (xs := ([] : List (S63))) (inner := []) (ok := fun _ => True) (okp := fun _ => True) ?hr ?hp (fun _ hk => hk) trivial (Below.refl _ _) (Nat.le_refl _) (by simp) ?_; (case hd => rfl); (case hg => rfl); (case hr => first | (go_simp; done) | (go_simp; rfl)); (case hp => exact (Reps.none _ _)); intro v471 w12 ho13 hb hg_ hnew_; clear hg_ hnew_; (first | rw [← Ny470.out] at ho13 | (simp only [Int.reduceToNat] at ho13; rw [← Ny470.out] at ho13)); have n0_ := Aside0.mk (Kd.R_lower ho13 (below_size hb_)); have n1_ := bk_ BK468 hb; have n2_ := Aside0.mk (below_step hb_ hb); clear BK468; clear HB; have HO472 := n0_; have BK468 := n1_; have HB := n2_; clear n0_ n1_ n2_; clear hb ho13))
   go_loopg [6, 7] k (fun kq v6 v7 w' => ∃ (x6_1 : List (S63)) (x7_1 : Int), v7 = .int .i64 x7_1 ∧ Aside0 (hopmeshref34_Pairs.l0 kq l1 x6_1 x7_1 a0_0 l0_1 a0_2 a0_3 l0_4 l0_5 = some (r1, r2)) ∧ Aside0 (kq ≤ k) ∧ Aside0 (Kd.R k63 63 w' w.heap.size (fun _ => True) v6 x6_1) ∧ Aside0 (w'.heap[gb468]? = some (.cells #[.int .i64 a0_0, (.slice A0_1 l0_1.length c0_1), .int .i64 a0_2, .int .i64 a0_3, (.slice A0_4 l0_4.length c0_4), (.slice A0_5 l0_5.length c0_5)] 26 (0, 0))) ∧ Aside0 (Below w.heap.size w w'))
   case atStart => exact ⟨(y470), (0), rl_, H', ⟨Nat.le_refl _⟩, ⟨kr_ HO472⟩, ⟨bj_ BK468⟩, ⟨hb_⟩⟩
   case round =>
    clear H'
    try clear c1; try clear p2; try clear c3; try clear c4; try clear c4b0; try clear c4b1; try clear c5; try clear c5b0; try clear c5b1; try clear hcz10_0; try clear hcz10_1; try clear hcz10_2; try clear hcz10_3; try clear hcz10_4; try clear hcz10_5; try clear hcz7_0; try clear hcz7_1; try clear hcz7_2; try clear hcz7_3; try clear hcz7_4; try clear hcz7_5; try clear hfz10_0; try clear hfz10_1; try clear hfz10_2; try clear hfz10_3; try clear hfz10_4; try clear hfz10_5; try clear hfz7_0; try clear hfz7_1; try clear hfz7_2; try clear hfz7_3; try clear hfz7_4; try clear hfz7_5
    (repeat clear HO_6); (repeat clear BK468); (repeat clear HB)
    obtain ⟨x6_1, x7_1, rfl, HA, HK1, HO_6, BK468, HB⟩ := hrel
    cases gk with
    | zero => exact absurd HA.out (by simp [hopmeshref34_Pairs.l0])
    | succ k1 =>
     have H := HA.out
     clear HA
     simp only [hopmeshref34_Pairs.l0] at H
     by_cases c14 : x7_1 < (l1.length : Int)
     ·
      rw [if_pos c14] at H
      have c14b0 : decide (x7_1 < (l1.length : Int)) = true := decide_eq_true c14
      clear c14
      have H' := Aside0.mk H
      clear H
      go_wp2
      go_loopg [6, 8] k1 (fun kq v6 v8 w' => ∃ (x6_2 : List (S63)) (x8_2 : Int), v8 = .int .i64 x8_2 ∧ Aside0 (hopmeshref34_Pairs.l1 kq l1 x6_2 x7_1 x8_2 a0_0 l0_1 a0_2 a0_3 l0_4 l0_5 = some (r1, r2)) ∧ Aside0 (kq ≤ k1) ∧ Aside0 (Kd.R k63 63 w' w.heap.size (fun _ => True) v6 x6_2) ∧ Aside0 (w'.heap[gb468]? = some (.cells #[.int .i64 a0_0, (.slice A0_1 l0_1.length c0_1), .int .i64 a0_2, .int .i64 a0_3, (.slice A0_4 l0_4.length c0_4), (.slice A0_5 l0_5.length c0_5)] 26 (0, 0))) ∧ Aside0 (Below w.heap.size w w'))
      case atStart => exact ⟨(x6_1), (wrap64 (x7_1 + 1)), rl_, H', ⟨Nat.le_refl _⟩, ⟨kr_ HO_6⟩, ⟨bj_ BK468⟩, ⟨hb_⟩⟩
      case round =>
       clear H'
       try clear c1; try clear p2; try clear c3; try clear c4; try clear c4b0; try clear c4b1; try clear c5; try clear c5b0; try clear c5b1; try clear p6; try clear c14; try clear c14b0; try clear hcz10_0; try clear hcz10_1; try clear hcz10_2; try clear hcz10_3; try clear hcz10_4; try clear hcz10_5; try clear hcz7_0; try clear hcz7_1; try clear hcz7_2; try clear hcz7_3; try clear hcz7_4; try clear hcz7_5; try clear hfz10_0; try clear hfz10_1; try clear hfz10_2; try clear hfz10_3; try clear hfz10_4; try clear hfz10_5; try clear hfz7_0; try clear hfz7_1; try clear hfz7_2; try clear hfz7_3; try clear hfz7_4; try clear hfz7_5; try clear p2
       (repeat clear HO_6); (repeat clear BK468); (repeat clear HB)
       obtain ⟨x6_2, x8_2, rfl, HA, HK2, HO_6, BK468, HB⟩ := hrel
       cases gk with
       | zero => exact absurd HA.out (by simp [hopmeshref34_Pairs.l1])
       | succ k2 =>
        have H := HA.out
        clear HA
        simp only [hopmeshref34_Pairs.l1] at H
        by_cases c15 : x8_2 < (l1.length : Int)
        ·
         rw [if_pos c15] at H
         have c15b0 : decide (x8_2 < (l1.length : Int)) = true := decide_eq_true c15
         clear c15
         by_cases c16 : 0 ≤ x7_1
         ·
          rw [if_pos c16] at H
          have c16b0 : decide (0 ≤ x7_1) = true := decide_eq_true c16
          clear c16
          by_cases c17 : x7_1 < (l1.length : Int)
          ·
           rw [if_pos c17] at H
           have c17b0 : decide (x7_1 < (l1.length : Int)) = true := decide_eq_true c17
           clear c17
           by_cases c18 : 0 ≤ x8_2
           ·
            rw [if_pos c18] at H
            have c18b0 : decide (0 ≤ x8_2) = true := decide_eq_true c18
            clear c18
            replace H := Option.bind_eq_some_iff.mp H
            obtain ⟨t475, A190, H⟩ := H
            replace H : (if t475 = true then (hopmeshref34_Pairs.l1 k2 l1 x6_2 x7_1 (wrap64 (x8_2 + 1)) a0_0 l0_1 a0_2 a0_3 l0_4 l0_5) else (if x6_2.length < 8796093022208 then (hopmeshref34_Pairs.l1 k2 l1 (x6_2 ++ [(⟨x7_1, x8_2⟩ : S63)]) x7_1 (wrap64 (x8_2 + 1)) a0_0 l0_1 a0_2 a0_3 l0_4 l0_5) else (none))) = some (r1, r2) := H
            have A19 := Aside0.mk A190
            clear A190
            by_cases c20 : t475 = true
            ·
             subst c20
             have H1 : (hopmeshref34_Pairs.l1 k2 l1 x6_2 x7_1 (wrap64 (x8_2 + 1)) a0_0 l0_1 a0_2 a0_3 l0_4 l0_5) = some (r1, r2) := by rw [if_pos rfl] at H; exact H
             clear H
             have H := H1
             clear H1
             have H' := Aside0.mk H
             clear H
             try go_wp2
             have n0_ := Aside0.mk (Kd.R_drew HO_6.out)
             have n1_ := Aside0.mk (blk_drew BK468.out)
             have n2_ := Aside0.mk (below_drew1 HB.out)
             clear HO_6
             clear BK468
             clear HB
             have HO_6 := n0_
             have BK468 := n1_
             have HB := n2_
             clear n0_ n1_ n2_
             have p473 : 0 ≤ (x7_1 : Int) := of_decide_eq_true (by assumption)
             have q473 : x7_1 < (l1.length : Int) := of_decide_eq_true (by assumption)
             obtain ⟨ad473, e473, hx473_0, hx473_1, hx473_2⟩ := at_T44 HR1.out x7_1 p473 q473
             have hw473_2 := hx473_2
             have hw473_1 := hx473_1
             have hw473_0 := hx473_0
             cases e473
             replace hx473_0 := (HB.out.cell (World.block_lt_of_cell? w _ hx473_0)).trans hx473_0
             replace hx473_1 := (HB.out.cell (World.block_lt_of_cell? w _ hx473_1)).trans hx473_1
             replace hx473_2 := (HB.out.cell (World.block_lt_of_cell? w _ hx473_2)).trans hx473_2
             replace p473 := eq_true p473
             replace q473 := eq_true q473
             have p474 : 0 ≤ (x8_2 : Int) := of_decide_eq_true (by assumption)
             have q474 : x8_2 < (l1.length : Int) := of_decide_eq_true (by assumption)
             obtain ⟨ad474, e474, hx474_0, hx474_1, hx474_2⟩ := at_T44 HR1.out x8_2 p474 q474
             have hw474_2 := hx474_2
             have hw474_1 := hx474_1
             have hw474_0 := hx474_0
             obtain rfl : ad473 = ad474 := (by injection e474)
             replace hx474_0 := (HB.out.cell (World.block_lt_of_cell? w _ hx474_0)).trans hx474_0
             replace hx474_1 := (HB.out.cell (World.block_lt_of_cell? w _ hx474_1)).trans hx474_1
             replace hx474_2 := (HB.out.cell (World.block_lt_of_cell? w _ hx474_2)).trans hx474_2
             replace p474 := eq_true p474
             replace q474 := eq_true q474
             refine start_ (n := 11) (S := fun w' => w'.cell? ⟨gb468, 0, none⟩ = some (.int .i64 a0_0) ∧ w'.cell? ⟨gb468, 1, none⟩ = some (.slice A0_1 l0_1.length c0_1) ∧ w'.cell? ⟨gb468, 2, none⟩ = some (.int .i64 a0_2) ∧ w'.cell? ⟨gb468, 3, none⟩ = some (.int .i64 a0_3) ∧ w'.cell? ⟨gb468, 4, none⟩ = some (.slice A0_4 l0_4.length c0_4) ∧ w'.cell? ⟨gb468, 5, none⟩ = some (.slice A0_5 l0_5.length c0_5) ∧ w'.cell? (ad473.add ((x7_1).toNat * 3)) = some (.int .i64 ((rd_T44 l1 x7_1).f0)) ∧ w'.cell? ⟨(ad473.add ((x7_1).toNat * 3)).block, (ad473.add ((x7_1).toNat * 3)).off + 1, none⟩ = some (.int .i64 ((rd_T44 l1 x7_1).f1)) ∧ w'.cell? ⟨(ad473.add ((x7_1).toNat * 3)).block, (ad473.add ((x7_1).toNat * 3)).off + 2, none⟩ = some (.int .i64 ((rd_T44 l1 x7_1).f2)) ∧ w'.cell? (ad473.add ((x8_2).toNat * 3)) = some (.int .i64 ((rd_T44 l1 x8_2).f0)) ∧ w'.cell? ⟨(ad473.add ((x8_2).toNat * 3)).block, (ad473.add ((x8_2).toNat * 3)).off + 1, none⟩ = some (.int .i64 ((rd_T44 l1 x8_2).f1)) ∧ w'.cell? ⟨(ad473.add ((x8_2).toNat * 3)).block, (ad473.add ((x8_2).toNat * 3)).off + 2, none⟩ = some (.int .i64 ((rd_T44 l1 x8_2).f2))) (ds := []) #[false, false, false, false, false, false, false, false, false, false, false] (by kernel_rfl) rfl rfl ⟨(blk_cell BK468.out 0).trans rfl, (blk_cell BK468.out 1).trans rfl, (blk_cell BK468.out 2).trans rfl, (blk_cell BK468.out 3).trans rfl, (blk_cell BK468.out 4).trans rfl, (blk_cell BK468.out 5).trans rfl, ((HB.out.cell (World.block_lt_of_cell? w _ hw473_0)).trans hw473_0), ((HB.out.cell (World.block_lt_of_cell? w _ hw473_1)).trans hw473_1), ((HB.out.cell (World.block_lt_of_cell? w _ hw473_2)).trans hw473_2), ((HB.out.cell (World.block_lt_of_cell? w _ hw474_0)).trans hw474_0), ((HB.out.cell (World.block_lt_of_cell? w _ hw474_1)).trans hw474_1), ((HB.out.cell (World.block_lt_of_cell? w _ hw474_2)).trans hw474_2)⟩ (fun hHeld => ?_); refine with_tabW hopmeshref34_Pairs.tab12 hopmeshref34_Pairs.bits12 (fun HT_ HW_ => ?_)
             generalize wr.drew = w21 at HO_6 BK468 HB hx473_0 hx473_1 hx473_2 hx474_0 hx474_1 hx474_2 hHeld ⊢
             refine pu_ HT_ 1 31 (bl 11 2) ?_
             refine pu_ HT_ 2 32 (bl 11 6) ?_
             refine pu_ HT_ 3 33 (bl 11 14) ?_
             refine pu_ HT_ 5 35 (bl 11 46) ?_
             refine pu_ HT_ 6 36 (bl 11 110) ?_
             refine pu_ HT_ 7 37 (bl 11 238) ?_
             refine tk_ HT_ HW_ hHeld 0 30 (bl 11 239) ?_
             refine tk_ HT_ HW_ hHeld 4 34 (bl 11 255) ?_
             refine tk_ HT_ HW_ hHeld 8 38 (bl 11 511) ?_
             refine one_ (i := 9) (N := some 39) (bl 11 1023) rfl rfl (one_of HT_.out (by kernel_rfl)) (by decide) (fun K hK => ?_)
             refine goes_ Try.func24 (by kernel_rfl) rfl #[.agg #[.int .i64 a0_0, .slice A0_1 l0_1.length c0_1, .int .i64 a0_2, .int .i64 a0_3, .slice A0_4 l0_4.length c0_4, .slice A0_5 l0_5.length c0_5], .agg #[.int .i64 ((rd_T44 l1 x7_1).f0), .int .i64 ((rd_T44 l1 x7_1).f1), .int .i64 ((rd_T44 l1 x7_1).f2)], .agg #[.int .i64 ((rd_T44 l1 x8_2).f0), .int .i64 ((rd_T44 l1 x8_2).f1), .int .i64 ((rd_T44 l1 x8_2).f2)]] (by rfl) rfl rfl am_ ?_
             with_reducible refine (hopmeshref34_Together.calls k2 a0_0 _ _ l0_1 a0_2 a0_3 _ _ l0_4 _ _ l0_5 ((rd_T44 l1 x7_1).f0) ((rd_T44 l1 x7_1).f1) ((rd_T44 l1 x7_1).f2) ((rd_T44 l1 x8_2).f0) ((rd_T44 l1 x8_2).f1) ((rd_T44 l1 x8_2).f2) true _ ?side1 ?side2 ?side3 ?side4 ?side5 ?side6 A19.out).mono ?_
             (case side1 | side3 | side5 => exact cb_)
             (case side2 | side4 | side6 => first | exact HC0_1.out | exact HC0_4.out | exact HC0_5.out)
             rintro e w22 ⟨rfl, hb⟩
             refine ⟨_, rfl, ?_⟩
             have n0_ := Aside0.mk (Kd.R_below (kr_ HO_6) hb)
             have n1_ := bk_ BK468 hb
             have n2_ := Aside0.mk (below_step hb_ hb)
             clear HO_6
             clear BK468
             clear HB
             have HO_6 := n0_
             have BK468 := n1_
             have HB := n2_
             clear n0_ n1_ n2_
             (try clear hb)
             (try clear hb2)
             (try clear hk)
             (try clear hi)
             refine hK.out _ _ ⟨(blk_cell BK468.out 0).trans rfl, (blk_cell BK468.out 1).trans rfl, (blk_cell BK468.out 2).trans rfl, (blk_cell BK468.out 3).trans rfl, (blk_cell BK468.out 4).trans rfl, (blk_cell BK468.out 5).trans rfl, ((HB.out.cell (World.block_lt_of_cell? w _ hw473_0)).trans hw473_0), ((HB.out.cell (World.block_lt_of_cell? w _ hw473_1)).trans hw473_1), ((HB.out.cell (World.block_lt_of_cell? w _ hw473_2)).trans hw473_2), ((HB.out.cell (World.block_lt_of_cell? w _ hw474_0)).trans hw474_0), ((HB.out.cell (World.block_lt_of_cell? w _ hw474_1)).trans hw474_1), ((HB.out.cell (World.block_lt_of_cell? w _ hw474_2)).trans hw474_2)⟩ (fun hHeld => ?_)
             clear hK K
             refine norm_ (a' := ?_) ?_ ?_
             rotate_left
             ·
              show Act.put _ (some 39) _ = _
              simp only [ap_, s0_, s1_, i64_w]
              rfl
             refine pu_ HT_ 10 40 (bl 11 2047) ?_
             refine done_ (done_of HT_.out (by kernel_rfl)) ?_
             try go_wp2
             go_roundg k2
             case measure => have := HK1.out; have := HK2.out; omega
             case rel => exact ⟨(x6_2), (wrap64 (x8_2 + 1)), rl_, H', ⟨by have := HK1.out; have := HK2.out; omega⟩, ⟨kr_ HO_6⟩, ⟨bj_ BK468⟩, ⟨hb_⟩⟩
            ·
             replace c20 := Bool.eq_false_iff.mpr c20
             subst c20
             have H1 : (if x6_2.length < 8796093022208 then (hopmeshref34_Pairs.l1 k2 l1 (x6_2 ++ [(⟨x7_1, x8_2⟩ : S63)]) x7_1 (wrap64 (x8_2 + 1)) a0_0 l0_1 a0_2 a0_3 l0_4 l0_5) else (none)) = some (r1, r2) := by rw [if_neg (show ¬ (false = true) by decide)] at H; exact H
             clear H
             have H := H1
             clear H1
             by_cases c23 : x6_2.length < 8796093022208
             ·
              rw [if_pos c23] at H
              have LMc23 := Aside0.mk c23
              clear c23
              obtain ⟨y476, hy476⟩ : ∃ y_ : List (S63), y_ = (x6_2 ++ [(⟨x7_1, x8_2⟩ : S63)]) := ⟨_, rfl⟩
              replace H : (hopmeshref34_Pairs.l1 k2 l1 y476 x7_1 (wrap64 (x8_2 + 1)) a0_0 l0_1 a0_2 a0_3 l0_4 l0_5) = some (r1, r2) := by first | (rw [hy476]; with_reducible exact H) | (have H2_ := (Option.bind_some _ _).symm.trans H; rw [hy476]; with_reducible exact H2_) | (have H2_ := (Option.bind_some _ _).symm.trans H; with_reducible exact H2_) | with_reducible exact H | (rw [hy476]; exact H) | exact H
              have Ny476 := Aside0.mk hy476
              clear hy476
              have H' := Aside0.mk H
              clear H
              try go_wp2
              have n0_ := Aside0.mk (Kd.R_drew HO_6.out)
              have n1_ := Aside0.mk (blk_drew BK468.out)
              have n2_ := Aside0.mk (below_drew1 HB.out)
              clear HO_6
              clear BK468
              clear HB
              have HO_6 := n0_
              have BK468 := n1_
              have HB := n2_
              clear n0_ n1_ n2_
              have p473 : 0 ≤ (x7_1 : Int) := of_decide_eq_true (by assumption)
              have q473 : x7_1 < (l1.length : Int) := of_decide_eq_true (by assumption)
              obtain ⟨ad473, e473, hx473_0, hx473_1, hx473_2⟩ := at_T44 HR1.out x7_1 p473 q473
              have hw473_2 := hx473_2
              have hw473_1 := hx473_1
              have hw473_0 := hx473_0
              cases e473
              replace hx473_0 := (HB.out.cell (World.block_lt_of_cell? w _ hx473_0)).trans hx473_0
              replace hx473_1 := (HB.out.cell (World.block_lt_of_cell? w _ hx473_1)).trans hx473_1
              replace hx473_2 := (HB.out.cell (World.block_lt_of_cell? w _ hx473_2)).trans hx473_2
              replace p473 := eq_true p473
              replace q473 := eq_true q473
              have p474 : 0 ≤ (x8_2 : Int) := of_decide_eq_true (by assumption)
              have q474 : x8_2 < (l1.length : Int) := of_decide_eq_true (by assumption)
              obtain ⟨ad474, e474, hx474_0, hx474_1, hx474_2⟩ := at_T44 HR1.out x8_2 p474 q474
              have hw474_2 := hx474_2
              have hw474_1 := hx474_1
              have hw474_0 := hx474_0
              obtain rfl : ad473 = ad474 := (by injection e474)
              replace hx474_0 := (HB.out.cell (World.block_lt_of_cell? w _ hx474_0)).trans hx474_0
              replace hx474_1 := (HB.out.cell (World.block_lt_of_cell? w _ hx474_1)).trans hx474_1
              replace hx474_2 := (HB.out.cell (World.block_lt_of_cell? w _ hx474_2)).trans hx474_2
              replace p474 := eq_true p474
              replace q474 := eq_true q474
              refine start_ (n := 11) (S := fun w' => w'.cell? ⟨gb468, 0, none⟩ = some (.int .i64 a0_0) ∧ w'.cell? ⟨gb468, 1, none⟩ = some (.slice A0_1 l0_1.length c0_1) ∧ w'.cell? ⟨gb468, 2, none⟩ = some (.int .i64 a0_2) ∧ w'.cell? ⟨gb468, 3, none⟩ = some (.int .i64 a0_3) ∧ w'.cell? ⟨gb468, 4, none⟩ = some (.slice A0_4 l0_4.length c0_4) ∧ w'.cell? ⟨gb468, 5, none⟩ = some (.slice A0_5 l0_5.length c0_5) ∧ w'.cell? (ad473.add ((x7_1).toNat * 3)) = some (.int .i64 ((rd_T44 l1 x7_1).f0)) ∧ w'.cell? ⟨(ad473.add ((x7_1).toNat * 3)).block, (ad473.add ((x7_1).toNat * 3)).off + 1, none⟩ = some (.int .i64 ((rd_T44 l1 x7_1).f1)) ∧ w'.cell? ⟨(ad473.add ((x7_1).toNat * 3)).block, (ad473.add ((x7_1).toNat * 3)).off + 2, none⟩ = some (.int .i64 ((rd_T44 l1 x7_1).f2)) ∧ w'.cell? (ad473.add ((x8_2).toNat * 3)) = some (.int .i64 ((rd_T44 l1 x8_2).f0)) ∧ w'.cell? ⟨(ad473.add ((x8_2).toNat * 3)).block, (ad473.add ((x8_2).toNat * 3)).off + 1, none⟩ = some (.int .i64 ((rd_T44 l1 x8_2).f1)) ∧ w'.cell? ⟨(ad473.add ((x8_2).toNat * 3)).block, (ad473.add ((x8_2).toNat * 3)).off + 2, none⟩ = some (.int .i64 ((rd_T44 l1 x8_2).f2))) (ds := []) #[false, false, false, false, false, false, false, false, false, false, false] (by kernel_rfl) rfl rfl ⟨(blk_cell BK468.out 0).trans rfl, (blk_cell BK468.out 1).trans rfl, (blk_cell BK468.out 2).trans rfl, (blk_cell BK468.out 3).trans rfl, (blk_cell BK468.out 4).trans rfl, (blk_cell BK468.out 5).trans rfl, ((HB.out.cell (World.block_lt_of_cell? w _ hw473_0)).trans hw473_0), ((HB.out.cell (World.block_lt_of_cell? w _ hw473_1)).trans hw473_1), ((HB.out.cell (World.block_lt_of_cell? w _ hw473_2)).trans hw473_2), ((HB.out.cell (World.block_lt_of_cell? w _ hw474_0)).trans hw474_0), ((HB.out.cell (World.block_lt_of_cell? w _ hw474_1)).trans hw474_1), ((HB.out.cell (World.block_lt_of_cell? w _ hw474_2)).trans hw474_2)⟩ (fun hHeld => ?_); refine with_tabW hopmeshref34_Pairs.tab12 hopmeshref34_Pairs.bits12 (fun HT_ HW_ => ?_)
              generalize wr.drew = w24 at HO_6 BK468 HB hx473_0 hx473_1 hx473_2 hx474_0 hx474_1 hx474_2 hHeld ⊢
              refine pu_ HT_ 1 31 (bl 11 2) ?_
              refine pu_ HT_ 2 32 (bl 11 6) ?_
              refine pu_ HT_ 3 33 (bl 11 14) ?_
              refine pu_ HT_ 5 35 (bl 11 46) ?_
              refine pu_ HT_ 6 36 (bl 11 110) ?_
              refine pu_ HT_ 7 37 (bl 11 238) ?_
              refine tk_ HT_ HW_ hHeld 0 30 (bl 11 239) ?_
              refine tk_ HT_ HW_ hHeld 4 34 (bl 11 255) ?_
              refine tk_ HT_ HW_ hHeld 8 38 (bl 11 511) ?_
              refine one_ (i := 9) (N := some 39) (bl 11 1023) rfl rfl (one_of HT_.out (by kernel_rfl)) (by decide) (fun K hK => ?_)
              refine goes_ Try.func24 (by kernel_rfl) rfl #[.agg #[.int .i64 a0_0, .slice A0_1 l0_1.length c0_1, .int .i64 a0_2, .int .i64 a0_3, .slice A0_4 l0_4.length c0_4, .slice A0_5 l0_5.length c0_5], .agg #[.int .i64 ((rd_T44 l1 x7_1).f0), .int .i64 ((rd_T44 l1 x7_1).f1), .int .i64 ((rd_T44 l1 x7_1).f2)], .agg #[.int .i64 ((rd_T44 l1 x8_2).f0), .int .i64 ((rd_T44 l1 x8_2).f1), .int .i64 ((rd_T44 l1 x8_2).f2)]] (by rfl) rfl rfl am_ ?_
              with_reducible refine (hopmeshref34_Together.calls k2 a0_0 _ _ l0_1 a0_2 a0_3 _ _ l0_4 _ _ l0_5 ((rd_T44 l1 x7_1).f0) ((rd_T44 l1 x7_1).f1) ((rd_T44 l1 x7_1).f2) ((rd_T44 l1 x8_2).f0) ((rd_T44 l1 x8_2).f1) ((rd_T44 l1 x8_2).f2) false _ ?side1 ?side2 ?side3 ?side4 ?side5 ?side6 A19.out).mono ?_
              (case side1 | side3 | side5 => exact cb_)
              (case side2 | side4 | side6 => first | exact HC0_1.out | exact HC0_4.out | exact HC0_5.out)
              rintro e w25 ⟨rfl, hb⟩
              refine ⟨_, rfl, ?_⟩
              have n0_ := Aside0.mk (Kd.R_below (kr_ HO_6) hb)
              have n1_ := bk_ BK468 hb
              have n2_ := Aside0.mk (below_step hb_ hb)
              clear HO_6
              clear BK468
              clear HB
              have HO_6 := n0_
              have BK468 := n1_
              have HB := n2_
              clear n0_ n1_ n2_
              (try clear hb)
              (try clear hb2)
              (try clear hk)
              (try clear hi)
              refine hK.out _ _ ⟨(blk_cell BK468.out 0).trans rfl, (blk_cell BK468.out 1).trans rfl, (blk_cell BK468.out 2).trans rfl, (blk_cell BK468.out 3).trans rfl, (blk_cell BK468.out 4).trans rfl, (blk_cell BK468.out 5).trans rfl, ((HB.out.cell (World.block_lt_of_cell? w _ hw473_0)).trans hw473_0), ((HB.out.cell (World.block_lt_of_cell? w _ hw473_1)).trans hw473_1), ((HB.out.cell (World.block_lt_of_cell? w _ hw473_2)).trans hw473_2), ((HB.out.cell (World.block_lt_of_cell? w _ hw474_0)).trans hw474_0), ((HB.out.cell (World.block_lt_of_cell? w _ hw474_1)).trans hw474_1), ((HB.out.cell (World.block_lt_of_cell? w _ hw474_2)).trans hw474_2)⟩ (fun hHeld => ?_)
              clear hK K
              refine norm_ (a' := ?_) ?_ ?_
              rotate_left
              ·
               show Act.put _ (some 39) _ = _
               simp only [ap_, s0_, s1_, i64_w]
               rfl
              refine pu_ HT_ 10 40 (bl 11 2047) ?_
              refine done_ (done_of HT_.out (by kernel_rfl)) ?_
              try go_wp2_with (first | ((with_reducible refine gate_builtin (b := .append) (xs := #[.tmp 41, .tmp 45]) rfl ?_); at_builtin; refine Kd.R_append k63 (w0 := w) w.heap.size rfl (.tmp 41) (.tmp 45) 58 63 (.agg #[(.int .i64 0), (.int .i64 0)]) 16 rfl Try.underlying58 info63 rfl (by decide) (by omega) u6 x6_2 (⟨x7_1, x8_2⟩ : S63) [.int .i64 x7_1, .int .i64 x8_2] (fun _ => True) (fun _ => False) rfl rfl ?aP (fun _ hk => hk.elim) ?aF ?aO ?aB ?aS ?aL ?_; (case aP => exact k63_mkM _ _ _ (⟨x7_1, x8_2⟩ : S63)); (case aB => exact hb_); (case aF => exact (fun _ _ => trivial)); (case aO => exact (kr_ HO_6)); (case aS => exact (below_size hb_)); (case aL => have := LMc23.out; omega); intro v477 w26 ho hb hg hat; rw [← Ny476.out] at ho; have n0_ := Aside0.mk (blk_grown (bj_ BK468) hg (Kd.R_ne HO_6.out BK468.out (by decide))); have n1_ := Aside0.mk (hb); have n2_ := Aside0.mk (ho); clear BK468; clear HB; clear HO_6; have BK468 := n0_; have HB := n1_; have HO478 := n2_; clear n0_ n1_ n2_; clear ho hb hg hat))
              go_roundg k2
              case measure => have := HK1.out; have := HK2.out; omega
              case rel => exact ⟨(y476), (wrap64 (x8_2 + 1)), rl_, H', ⟨by have := HK1.out; have := HK2.out; omega⟩, ⟨kr_ HO478⟩, ⟨bj_ BK468⟩, ⟨hb_⟩⟩
             ·
              rw [if_neg c23] at H
              exact absurd H (by simp)
           ·
            rw [if_neg c18] at H
            exact absurd H (by simp)
          ·
           rw [if_neg c17] at H
           exact absurd H (by simp)
         ·
          rw [if_neg c16] at H
          exact absurd H (by simp)
        ·
         rw [if_neg c15] at H
         have c15b0 : decide (x8_2 < (l1.length : Int)) = false := decide_eq_false c15
         clear c15
         have H' := Aside0.mk H
         clear H
         go_wp2
         go_roundg k2
         case measure => have := HK1.out; have := HK2.out; omega
         case rel => exact ⟨(x6_2), (wrap64 (x7_1 + 1)), rl_, H', ⟨by have := HK1.out; have := HK2.out; omega⟩, ⟨kr_ HO_6⟩, ⟨bj_ BK468⟩, ⟨hb_⟩⟩
     ·
      rw [if_neg c14] at H
      have c14b0 : decide (x7_1 < (l1.length : Int)) = false := decide_eq_false c14
      clear c14
      simp only [Option.some.injEq, Prod.mk.injEq] at H
      obtain ⟨rfl, rfl⟩ := H
      go_wp2
      go_ret2
      exact ⟨_, by first | rfl | (simp [errW_none, errW_some] <;> rfl) | (simp [*, errW_none, errW_some] <;> rfl), kr_ HO_6, hb_⟩
 ·
  rw [if_neg c4] at H
  have c4b0 : (t469 == 0) = false := beq_eq_false_iff_ne.mpr c4
  have c4b1 : (t469 != 0) = true := bne_iff_ne.mpr c4
  simp only [Option.some.injEq, Prod.mk.injEq] at H
  obtain ⟨rfl, rfl⟩ := H
  go_enter Try.func32, Try.ntmps32
  go_wp2_with (first | ((with_reducible refine gate_dst (N := 2) rfl ?_); refine bx_ 2 #[.int .i64 a0_0, .slice A0_1 l0_1.length c0_1, .int .i64 a0_2, .int .i64 a0_3, .slice A0_4 l0_4.length c0_4, .slice A0_5 l0_5.length c0_5] 26 ?_; intro gb468 hg w27 hbox hb; have n0_ := Aside0.mk (below_step hb_ hb); have n1_ := Aside0.mk (hbox); have n2_ := Aside0.mk ((by rw [hg]; exact (below_size hb_) : w.heap.size ≤ gb468)); have n3_ := Aside0.mk ((by rw [hg]; exact (below_size hb_) : w.heap.size ≤ gb468)); clear HB; have HB := n0_; have BK468 := n1_; have GW468 := n2_; have GE468 := n3_; clear n0_ n1_ n2_ n3_; clear hb hbox hg; have hcz28_0 := bc0 BK468; have hcz28_1 := bc1 BK468; have hcz28_2 := bc2 BK468; have hcz28_3 := bc3 BK468; have hcz28_4 := bc4 BK468; have hcz28_5 := bc5 BK468; have hfz28_0 := blk_frozen BK468.out 0; have hfz28_1 := blk_frozen BK468.out 1; have hfz28_2 := blk_frozen BK468.out 2; have hfz28_3 := blk_frozen BK468.out 3; have hfz28_4 := blk_frozen BK468.out 4; have hfz28_5 := blk_frozen BK468.out 5) | ((with_reducible refine gate_callee (f := 40) rfl ?_); refine goesL_ (some 10) rfl rfl Try.func40 (by kernel_rfl) rfl #[.agg #[.int .i64 a0_0, .slice A0_1 l0_1.length c0_1, .int .i64 a0_2, .int .i64 a0_3, .slice A0_4 l0_4.length c0_4, .slice A0_5 l0_5.length c0_5]] rfl am_ ?_; (with_reducible refine (hopmeshref31_Check.calls k a0_0 _ _ l0_1 a0_2 a0_3 _ _ l0_4 _ _ l0_5 t469 _ ?side1 ?side2 ?side3 ?side4 ?side5 ?side6 A3.out).mono ?_); (case side1 | side3 | side5 => exact cb_); (case side2 | side4 | side6 => first | exact HC0_1.out | exact HC0_4.out | exact HC0_5.out); rintro e w29 ⟨rfl, hb⟩; refine ⟨_, rfl, ?_⟩; have n0_ := bk_ BK468 hb; have n1_ := Aside0.mk (below_step hb_ hb); clear BK468; clear HB; have BK468 := n0_; have HB := n1_; clear n0_ n1_; (try clear hb); (try clear hb2); (try clear hk); (try clear hi)))
  go_ret2
  exact ⟨_, by first | rfl | (simp [errW_none, errW_some] <;> rfl) | (simp [*, errW_none, errW_some] <;> rfl), by first | exact Kd.R_nil _ _ _ _ _ | exact Kd.N_nil _ _ _ _ _ | exact Kd.V_nil _ _ _ _ _ | exact Kd.Q_nil _ _ _ _ _ | exact Kd.S_nil _ _ _ _ _, hb_⟩

end Go.Proofs.Ytibgcekekmphoaa.P34
