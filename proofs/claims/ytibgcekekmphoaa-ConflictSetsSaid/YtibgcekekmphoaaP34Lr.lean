-- Written by a program of this session (wip/tools) over the kit's print; Lean checks it.
import Derived.Test.YtibgcekekmphoaaP340
import Derived.Test.YtibgcekekmphoaaP34C
import Derived.Test.YtibgcekekmphoaaP34G
import Derived.Test.YtibgcekekmphoaaP34Ct
import Derived.Test.YtibgcekekmphoaaP34So
import Derived.Test.YtibgcekekmphoaaP34Be
namespace Go.Proofs.Ytibgcekekmphoaa.P34
open Go.RowKit Go.Proofs.YtibgcekekmphoaaW.PrintWords Go.Proofs.YtibgcekekmphoaaW.PrintLast Go.Proofs.YtibgcekekmphoaaW.PrintMore
attribute [local go_sem] max2_int min2_int max_two min_two max_three min_three max_four min_four   -- for this text's walks alone
set_option linter.unusedVariables false
set_option linter.unusedSimpArgs false

/-! ### hopmeshref34_Largest: function 30 -/
def hopmeshref34_Largest.l0 : Nat → List (S44) → List Int → Int → Int → List (List Int) → Int → Int → List (S44) → List Int → Option (List Int × Int)
 | 0, _, _, _, _, _, _, _, _, _ => none
 | k + 1, x1, x6, x7, x453000, x453001, x453002, x453003, x453004, x453005 => if x7 < (shl .i64 1 (x1.length : Int)) then ((hopmeshref34_Some.f k x1 x7).bind fun bt457 => ((hopmeshref34_before.f k bt457.2 x6).bind fun t463 => (if t463 = true then ((hopmeshref34_Cells.f k bt457.1).bind fun t464 => ((hopmeshref34_Good.f k x453000 x453001 x453002 x453003 x453004 x453005 t464).bind fun t467 => (if t467 = true then (hopmeshref34_Largest.l0 k x1 bt457.2 (wrap64 (x7 + 1)) x453000 x453001 x453002 x453003 x453004 x453005) else (hopmeshref34_Largest.l0 k x1 x6 (wrap64 (x7 + 1)) x453000 x453001 x453002 x453003 x453004 x453005)))) else (hopmeshref34_Largest.l0 k x1 x6 (wrap64 (x7 + 1)) x453000 x453001 x453002 x453003 x453004 x453005)))) else (some (x6, 0))
def hopmeshref34_Largest.f (k : Nat) (a0_0 : Int) (l0_1 : List (List Int)) (a0_2 : Int) (a0_3 : Int) (l0_4 : List (S44)) (l0_5 : List Int) (l1 : List (S44)) : Option (List Int × Int) := (hopmeshref31_Check.f k a0_0 l0_1 a0_2 a0_3 l0_4 l0_5).bind fun t453 => (if t453 = 0 then (if (l1.length : Int) > 12 then (some (([] : List Int), 8)) else (hopmeshref34_Largest.l0 k l1 (([] : List Int)) 0 a0_0 l0_1 a0_2 a0_3 l0_4 l0_5)) else (some (([] : List Int), 1)))
theorem hopmeshref34_Largest.mono_l : ∀ k, (∀ y0 y1 y2 y3 y4 y5 y6 y7 y8, LeO (hopmeshref34_Largest.l0 k y0 y1 y2 y3 y4 y5 y6 y7 y8) (hopmeshref34_Largest.l0 (k + 1) y0 y1 y2 y3 y4 y5 y6 y7 y8))
 | 0 => fun _ _ _ _ _ _ _ _ _ r h => by simp [hopmeshref34_Largest.l0] at h
 | k + 1 => by
  have ih0 := hopmeshref34_Largest.mono_l k
  ·
   intro y0 y1 y2 y3 y4 y5 y6 y7 y8
   unfold hopmeshref34_Largest.l0
   repeat' first
   | (with_reducible exact ih0 _ _ _ _ _ _ _ _ _)
   | (with_reducible exact hopmeshref31_Check.mono _ _ _ _ _ _ _)
   | (with_reducible exact hopmeshref34_Cells.mono _ _)
   | (with_reducible exact hopmeshref34_Good.mono _ _ _ _ _ _ _ _)
   | (with_reducible exact hopmeshref34_Some.mono _ _ _)
   | (with_reducible exact hopmeshref34_before.mono _ _ _)
   | (with_reducible exact LeO.refl _)
   | (with_reducible exact LeO.none _)
   | (with_reducible refine LeO.ite ?_ ?_)
   | (with_reducible refine LeO.bind ?_ (fun _ => ?_))
   | exact ih0 _ _ _ _ _ _ _ _ _
   | exact hopmeshref31_Check.mono _ _ _ _ _ _ _
   | exact hopmeshref34_Cells.mono _ _
   | exact hopmeshref34_Good.mono _ _ _ _ _ _ _ _
   | exact hopmeshref34_Some.mono _ _ _
   | exact hopmeshref34_before.mono _ _ _
   | exact LeO.none _
   | refine LeO.ite ?_ ?_
   | refine LeO.bind ?_ (fun _ => ?_)
theorem hopmeshref34_Largest.mono : ∀ a0 a1 a2 a3 a4 a5 a6 k, LeO (hopmeshref34_Largest.f k a0 a1 a2 a3 a4 a5 a6) (hopmeshref34_Largest.f (k + 1) a0 a1 a2 a3 a4 a5 a6) := by
 intro a0 a1 a2 a3 a4 a5 a6 k
 have ih0 := hopmeshref34_Largest.mono_l k
 unfold hopmeshref34_Largest.f
 repeat' first
   | (with_reducible exact ih0 _ _ _ _ _ _ _ _ _)
   | (with_reducible exact hopmeshref31_Check.mono _ _ _ _ _ _ _)
   | (with_reducible exact hopmeshref34_Cells.mono _ _)
   | (with_reducible exact hopmeshref34_Good.mono _ _ _ _ _ _ _ _)
   | (with_reducible exact hopmeshref34_Some.mono _ _ _)
   | (with_reducible exact hopmeshref34_before.mono _ _ _)
   | (with_reducible exact LeO.refl _)
   | (with_reducible exact LeO.none _)
   | (with_reducible refine LeO.ite ?_ ?_)
   | (with_reducible refine LeO.bind ?_ (fun _ => ?_))
   | exact ih0 _ _ _ _ _ _ _ _ _
   | exact hopmeshref31_Check.mono _ _ _ _ _ _ _
   | exact hopmeshref34_Cells.mono _ _
   | exact hopmeshref34_Good.mono _ _ _ _ _ _ _ _
   | exact hopmeshref34_Some.mono _ _ _
   | exact hopmeshref34_before.mono _ _ _
   | exact LeO.none _
   | refine LeO.ite ?_ ?_
   | refine LeO.bind ?_ (fun _ => ?_)
def hopmeshref34_Largest.T10 : Bool × List (List Nat × List Nat) := (true, [([], []), ([], []), ([0, 1], [0, 1]), ([2, 2], [2]), ([3], [3]), ([3], [3]), ([5, 3, 3], [3, 5]), ([4, 6, 6, 3], [3, 4, 6]), ([3, 7], [3, 7])])
def hopmeshref34_Largest.B10 : List Nat := [0, 0, 3, 7, 15, 15, 47, 127, 255]
theorem hopmeshref34_Largest.tab10 : rtab .any (opsOf Try.f30 10) = hopmeshref34_Largest.T10 := by kernel_rfl
theorem hopmeshref34_Largest.bits10 : waitsOk hopmeshref34_Largest.T10.2 hopmeshref34_Largest.B10 = true := by kernel_rfl
set_option maxHeartbeats 8000000 in
set_option maxRecDepth 100000 in
theorem hopmeshref34_Largest.calls (k : Nat) (a0_0 : Int) (A0_1 : Option Addr) (c0_1 : Nat) (l0_1 : List (List Int)) (a0_2 : Int) (a0_3 : Int) (A0_4 : Option Addr) (c0_4 : Nat) (l0_4 : List (S44)) (A0_5 : Option Addr) (c0_5 : Nat) (l0_5 : List Int) (A1 : Option Addr) (c1 : Nat) (l1 : List (S44)) (r1 : List Int) (r2 : Int) (w : World) (hr0_1 : Kd.C (Kd.slice 3 (Kd.int .i64)) w A0_1 l0_1.length l0_1) (hc0_1 : l0_1.length ≤ c0_1) (hr0_4 : Kd.C k44 w A0_4 l0_4.length l0_4) (hc0_4 : l0_4.length ≤ c0_4) (hr0_5 : Kd.C (Kd.int .i64) w A0_5 l0_5.length l0_5) (hc0_5 : l0_5.length ≤ c0_5) (hr1 : Kd.C k44 w A1 l1.length l1) (hc1 : l1.length ≤ c1) (h : hopmeshref34_Largest.f k a0_0 l0_1 a0_2 a0_3 l0_4 l0_5 l1 = some (r1, r2)) :
  Calls Try.prog 30 #[.agg #[.int .i64 a0_0, .slice A0_1 l0_1.length c0_1, .int .i64 a0_2, .int .i64 a0_3, .slice A0_4 l0_4.length c0_4, .slice A0_5 l0_5.length c0_5], .slice A1 l1.length c1] w fun e w' => ∃ v0_ : Value, e = .returned (.tuple #[v0_, .int .i64 r2]) ∧ Kd.R (Kd.int .i64) 3 w' w.heap.size (fun _ => True) v0_ r1 ∧ Below w.heap.size w w' := by
 have hu26 := Try.underlying26
 have HR0_1 := Aside0.mk hr0_1
 have HC0_1 := Aside0.mk hc0_1
 clear hr0_1 hc0_1
 have HR0_4 := Aside0.mk hr0_4
 have HC0_4 := Aside0.mk hc0_4
 clear hr0_4 hc0_4
 have HR0_5 := Aside0.mk hr0_5
 have HC0_5 := Aside0.mk hc0_5
 clear hr0_5 hc0_5
 have HR1 := Aside0.mk hr1
 have HC1 := Aside0.mk hc1
 clear hr1 hc1
 have HB := Aside0.mk (Below.refl w.heap.size w)
 have H : ((hopmeshref31_Check.f k a0_0 l0_1 a0_2 a0_3 l0_4 l0_5).bind fun t453 => (if t453 = 0 then (if (l1.length : Int) > 12 then (some (([] : List Int), 8)) else (hopmeshref34_Largest.l0 k l1 (([] : List Int)) 0 a0_0 l0_1 a0_2 a0_3 l0_4 l0_5)) else (some (([] : List Int), 1)))) = some (r1, r2) := h
 clear h
 replace H := Option.bind_eq_some_iff.mp H
 obtain ⟨t453, A30, H⟩ := H
 replace H : (if t453 = 0 then (if (l1.length : Int) > 12 then (some (([] : List Int), 8)) else (hopmeshref34_Largest.l0 k l1 (([] : List Int)) 0 a0_0 l0_1 a0_2 a0_3 l0_4 l0_5)) else (some (([] : List Int), 1))) = some (r1, r2) := H
 have A3 := Aside0.mk A30
 clear A30
 by_cases c4 : t453 = 0
 ·
  rw [if_pos c4] at H
  have c4b0 : (t453 == 0) = true := beq_iff_eq.mpr c4
  have c4b1 : (t453 != 0) = false := bne_eq_false_iff_eq.mpr c4
  clear c4
  by_cases c5 : (l1.length : Int) > 12
  ·
   rw [if_pos c5] at H
   have c5b0 : decide (12 < (l1.length : Int)) = true := decide_eq_true c5
   have c5b1 : decide (12 < l1.length) = true := decide_eq_true (by omega)
   clear c5
   simp only [Option.some.injEq, Prod.mk.injEq] at H
   obtain ⟨rfl, rfl⟩ := H
   go_enter Try.func30, Try.ntmps30
   go_wp2_with (first | ((with_reducible refine gate_dst (N := 2) rfl ?_); refine bx_ 2 #[.int .i64 a0_0, .slice A0_1 l0_1.length c0_1, .int .i64 a0_2, .int .i64 a0_3, .slice A0_4 l0_4.length c0_4, .slice A0_5 l0_5.length c0_5] 26 ?_; intro gb452 hg w6 hbox hb; have n0_ := Aside0.mk (below_step hb_ hb); have n1_ := Aside0.mk (hbox); have n2_ := Aside0.mk ((by rw [hg]; exact (below_size hb_) : w.heap.size ≤ gb452)); have n3_ := Aside0.mk ((by rw [hg]; exact (below_size hb_) : w.heap.size ≤ gb452)); clear HB; have HB := n0_; have BK452 := n1_; have GW452 := n2_; have GE452 := n3_; clear n0_ n1_ n2_ n3_; clear hb hbox hg; have hcz7_0 := bc0 BK452; have hcz7_1 := bc1 BK452; have hcz7_2 := bc2 BK452; have hcz7_3 := bc3 BK452; have hcz7_4 := bc4 BK452; have hcz7_5 := bc5 BK452; have hfz7_0 := blk_frozen BK452.out 0; have hfz7_1 := blk_frozen BK452.out 1; have hfz7_2 := blk_frozen BK452.out 2; have hfz7_3 := blk_frozen BK452.out 3; have hfz7_4 := blk_frozen BK452.out 4; have hfz7_5 := blk_frozen BK452.out 5) | ((with_reducible refine gate_callee (f := 40) rfl ?_); refine goesL_ (some 11) rfl rfl Try.func40 (by kernel_rfl) rfl #[.agg #[.int .i64 a0_0, .slice A0_1 l0_1.length c0_1, .int .i64 a0_2, .int .i64 a0_3, .slice A0_4 l0_4.length c0_4, .slice A0_5 l0_5.length c0_5]] rfl am_ ?_; (with_reducible refine (hopmeshref31_Check.calls k a0_0 _ _ l0_1 a0_2 a0_3 _ _ l0_4 _ _ l0_5 t453 _ ?side1 ?side2 ?side3 ?side4 ?side5 ?side6 A3.out).mono ?_); (case side1 | side3 | side5 => exact cb_); (case side2 | side4 | side6 => first | exact HC0_1.out | exact HC0_4.out | exact HC0_5.out); rintro e w8 ⟨rfl, hb⟩; refine ⟨_, rfl, ?_⟩; have n0_ := bk_ BK452 hb; have n1_ := Aside0.mk (below_step hb_ hb); clear BK452; clear HB; have BK452 := n0_; have HB := n1_; clear n0_ n1_; (try clear hb); (try clear hb2); (try clear hk); (try clear hi)))
   go_ret2
   exact ⟨_, by first | rfl | (simp [errW_none, errW_some] <;> rfl) | (simp [*, errW_none, errW_some] <;> rfl), by first | exact Kd.R_nil _ _ _ _ _ | exact Kd.N_nil _ _ _ _ _ | exact Kd.V_nil _ _ _ _ _ | exact Kd.Q_nil _ _ _ _ _ | exact Kd.S_nil _ _ _ _ _, hb_⟩
  ·
   rw [if_neg c5] at H
   have c5b0 : decide (12 < (l1.length : Int)) = false := decide_eq_false c5
   have c5b1 : decide (12 < l1.length) = false := decide_eq_false (by omega)
   clear c5
   obtain ⟨y454, hy454⟩ : ∃ y_ : List Int, y_ = (([] : List Int)) := ⟨_, rfl⟩
   replace H : (hopmeshref34_Largest.l0 k l1 y454 0 a0_0 l0_1 a0_2 a0_3 l0_4 l0_5) = some (r1, r2) := by first | (rw [hy454]; with_reducible exact H) | (have H2_ := (Option.bind_some _ _).symm.trans H; rw [hy454]; with_reducible exact H2_) | (have H2_ := (Option.bind_some _ _).symm.trans H; with_reducible exact H2_) | with_reducible exact H | (rw [hy454]; exact H) | exact H
   have Ny454 := Aside0.mk hy454
   clear hy454
   have H' := Aside0.mk H
   clear H
   go_enter Try.func30, Try.ntmps30
   go_wp2_with (first | ((with_reducible refine gate_dst (N := 2) rfl ?_); refine bx_ 2 #[.int .i64 a0_0, .slice A0_1 l0_1.length c0_1, .int .i64 a0_2, .int .i64 a0_3, .slice A0_4 l0_4.length c0_4, .slice A0_5 l0_5.length c0_5] 26 ?_; intro gb452 hg w9 hbox hb; have n0_ := Aside0.mk (below_step hb_ hb); have n1_ := Aside0.mk (hbox); have n2_ := Aside0.mk ((by rw [hg]; exact (below_size hb_) : w.heap.size ≤ gb452)); have n3_ := Aside0.mk ((by rw [hg]; exact (below_size hb_) : w.heap.size ≤ gb452)); clear HB; have HB := n0_; have BK452 := n1_; have GW452 := n2_; have GE452 := n3_; clear n0_ n1_ n2_ n3_; clear hb hbox hg; have hcz10_0 := bc0 BK452; have hcz10_1 := bc1 BK452; have hcz10_2 := bc2 BK452; have hcz10_3 := bc3 BK452; have hcz10_4 := bc4 BK452; have hcz10_5 := bc5 BK452; have hfz10_0 := blk_frozen BK452.out 0; have hfz10_1 := blk_frozen BK452.out 1; have hfz10_2 := blk_frozen BK452.out 2; have hfz10_3 := blk_frozen BK452.out 3; have hfz10_4 := blk_frozen BK452.out 4; have hfz10_5 := blk_frozen BK452.out 5) | ((with_reducible refine gate_callee (f := 40) rfl ?_); refine goesL_ (some 11) rfl rfl Try.func40 (by kernel_rfl) rfl #[.agg #[.int .i64 a0_0, .slice A0_1 l0_1.length c0_1, .int .i64 a0_2, .int .i64 a0_3, .slice A0_4 l0_4.length c0_4, .slice A0_5 l0_5.length c0_5]] rfl am_ ?_; (with_reducible refine (hopmeshref31_Check.calls k a0_0 _ _ l0_1 a0_2 a0_3 _ _ l0_4 _ _ l0_5 t453 _ ?side1 ?side2 ?side3 ?side4 ?side5 ?side6 A3.out).mono ?_); (case side1 | side3 | side5 => exact cb_); (case side2 | side4 | side6 => first | exact HC0_1.out | exact HC0_4.out | exact HC0_5.out); rintro e w11 ⟨rfl, hb⟩; refine ⟨_, rfl, ?_⟩; have n0_ := bk_ BK452 hb; have n1_ := Aside0.mk (below_step hb_ hb); clear BK452; clear HB; have BK452 := n0_; have HB := n1_; clear n0_ n1_; (try clear hb); (try clear hb2); (try clear hk); (try clear hi)) | ((with_reducible refine gate_dst (N := 16) rfl ?_); refine Kd.R_lit (Kd.int .i64) _ 3 ?hg (N := 16) ?hd (xs := ([] : List Int)) (inner := []) (ok := fun _ => True) (okp := fun _ => True) ?hr ?hp (fun _ hk => hk) trivial (Below.refl _ _) (Nat.le_refl _) (by simp) ?_; (case hd => rfl); (case hg => rfl); (case hr => first | (go_simp; done) | (go_simp; rfl)); (case hp => exact (Reps.none _ _)); intro v455 w12 ho13 hb hg_ hnew_; clear hg_ hnew_; (first | rw [← Ny454.out] at ho13 | (simp only [Int.reduceToNat] at ho13; rw [← Ny454.out] at ho13)); have n0_ := Aside0.mk (Kd.R_lower ho13 (below_size hb_)); have n1_ := bk_ BK452 hb; have n2_ := Aside0.mk (below_step hb_ hb); clear BK452; clear HB; have HO456 := n0_; have BK452 := n1_; have HB := n2_; clear n0_ n1_ n2_; clear hb ho13))
   go_loopg [6, 7] k (fun kq v6 v7 w' => ∃ (x6_1 : List Int) (x7_1 : Int), v7 = .int .i64 x7_1 ∧ Aside0 (hopmeshref34_Largest.l0 kq l1 x6_1 x7_1 a0_0 l0_1 a0_2 a0_3 l0_4 l0_5 = some (r1, r2)) ∧ Aside0 (kq ≤ k) ∧ Aside0 (Kd.R (Kd.int .i64) 3 w' w.heap.size (fun _ => True) v6 x6_1) ∧ Aside0 (w'.heap[gb452]? = some (.cells #[.int .i64 a0_0, (.slice A0_1 l0_1.length c0_1), .int .i64 a0_2, .int .i64 a0_3, (.slice A0_4 l0_4.length c0_4), (.slice A0_5 l0_5.length c0_5)] 26 (0, 0))) ∧ Aside0 (Below w.heap.size w w'))
   case atStart => exact ⟨(y454), (0), rl_, H', ⟨Nat.le_refl _⟩, ⟨kr_ HO456⟩, ⟨bj_ BK452⟩, ⟨hb_⟩⟩
   case round =>
    clear H'
    try clear c1; try clear p2; try clear c3; try clear c4; try clear c4b0; try clear c4b1; try clear c5; try clear c5b0; try clear c5b1; try clear hcz10_0; try clear hcz10_1; try clear hcz10_2; try clear hcz10_3; try clear hcz10_4; try clear hcz10_5; try clear hcz7_0; try clear hcz7_1; try clear hcz7_2; try clear hcz7_3; try clear hcz7_4; try clear hcz7_5; try clear hfz10_0; try clear hfz10_1; try clear hfz10_2; try clear hfz10_3; try clear hfz10_4; try clear hfz10_5; try clear hfz7_0; try clear hfz7_1; try clear hfz7_2; try clear hfz7_3; try clear hfz7_4; try clear hfz7_5
    (repeat clear HO_6); (repeat clear BK452); (repeat clear HB)
    obtain ⟨x6_1, x7_1, rfl, HA, HK1, HO_6, BK452, HB⟩ := hrel
    cases gk with
    | zero => exact absurd HA.out (by simp [hopmeshref34_Largest.l0])
    | succ k1 =>
     have H := HA.out
     clear HA
     simp only [hopmeshref34_Largest.l0] at H
     obtain ⟨ji14, hji14⟩ : ∃ j_ : Int, (shl .i64 1 (l1.length : Int)) = j_ := ⟨_, rfl⟩
     replace H : (if x7_1 < (ji14) then ((hopmeshref34_Some.f k1 l1 x7_1).bind fun bt457 => ((hopmeshref34_before.f k1 bt457.2 x6_1).bind fun t463 => (if t463 = true then ((hopmeshref34_Cells.f k1 bt457.1).bind fun t464 => ((hopmeshref34_Good.f k1 a0_0 l0_1 a0_2 a0_3 l0_4 l0_5 t464).bind fun t467 => (if t467 = true then (hopmeshref34_Largest.l0 k1 l1 bt457.2 (wrap64 (x7_1 + 1)) a0_0 l0_1 a0_2 a0_3 l0_4 l0_5) else (hopmeshref34_Largest.l0 k1 l1 x6_1 (wrap64 (x7_1 + 1)) a0_0 l0_1 a0_2 a0_3 l0_4 l0_5)))) else (hopmeshref34_Largest.l0 k1 l1 x6_1 (wrap64 (x7_1 + 1)) a0_0 l0_1 a0_2 a0_3 l0_4 l0_5)))) else (some (x6_1, 0))) = some (r1, r2) := by first | (rw [hji14] at H; exact H) | (simp only [hji14] at H ⊢; exact H)
     have hji14_ : (IntKind.i64.wrap (1 * 2 ^ min (l1.length : Int).toNat 64)) = ji14 := hji14
     have hji14z : (l1.length : Int) ≤ 64 → (IntKind.i64.wrap (1 * 2 ^ (l1.length : Int).toNat)) = ji14 := shl_small hji14
     have hji14p : (IntKind.i64.wrap (1 * 2 ^ min l1.length 64)) = ji14 := hji14_
     have hji14q : (l1.length : Int) ≤ 64 → (IntKind.i64.wrap (1 * 2 ^ l1.length)) = ji14 := hji14z
     have hji14r : (IntKind.i64.wrap (2 ^ min l1.length 64)) = ji14 := by have h_ := hji14p; rw [Int.one_mul] at h_; exact h_
     have hji14s : (l1.length : Int) ≤ 64 → (IntKind.i64.wrap (2 ^ l1.length)) = ji14 := fun hle_ => by have h_ := hji14q hle_; rw [Int.one_mul] at h_; exact h_
     have hji14u : (IntKind.i64.wrap (2 ^ min (l1.length : Int).toNat 64)) = ji14 := by have h_ := hji14_; rw [Int.one_mul] at h_; exact h_
     have hji14v : (l1.length : Int) ≤ 64 → (IntKind.i64.wrap (2 ^ (l1.length : Int).toNat)) = ji14 := fun hle_ => by have h_ := hji14z hle_; rw [Int.one_mul] at h_; exact h_
     have hji14y : (wrap64 (1 * 2 ^ min (l1.length : Int).toNat 64)) = ji14 := (i64_w _).symm.trans hji14_
     have hji14x : (l1.length : Int) ≤ 64 → (wrap64 (1 * 2 ^ (l1.length : Int).toNat)) = ji14 := fun h_ => (i64_w _).symm.trans (hji14z h_)
     by_cases c15 : x7_1 < (ji14)
     ·
      rw [if_pos c15] at H
      have c15b0 : decide (x7_1 < (ji14)) = true := decide_eq_true c15
      clear c15
      replace H := Option.bind_eq_some_iff.mp H
      obtain ⟨⟨t457, t458⟩, A160, H⟩ := H
      replace H : ((hopmeshref34_before.f k1 t458 x6_1).bind fun t463 => (if t463 = true then ((hopmeshref34_Cells.f k1 t457).bind fun t464 => ((hopmeshref34_Good.f k1 a0_0 l0_1 a0_2 a0_3 l0_4 l0_5 t464).bind fun t467 => (if t467 = true then (hopmeshref34_Largest.l0 k1 l1 t458 (wrap64 (x7_1 + 1)) a0_0 l0_1 a0_2 a0_3 l0_4 l0_5) else (hopmeshref34_Largest.l0 k1 l1 x6_1 (wrap64 (x7_1 + 1)) a0_0 l0_1 a0_2 a0_3 l0_4 l0_5)))) else (hopmeshref34_Largest.l0 k1 l1 x6_1 (wrap64 (x7_1 + 1)) a0_0 l0_1 a0_2 a0_3 l0_4 l0_5))) = some (r1, r2) := H
      have A16 := Aside0.mk A160
      clear A160
      replace H := Option.bind_eq_some_iff.mp H
      obtain ⟨t463, A170, H⟩ := H
      replace H : (if t463 = true then ((hopmeshref34_Cells.f k1 t457).bind fun t464 => ((hopmeshref34_Good.f k1 a0_0 l0_1 a0_2 a0_3 l0_4 l0_5 t464).bind fun t467 => (if t467 = true then (hopmeshref34_Largest.l0 k1 l1 t458 (wrap64 (x7_1 + 1)) a0_0 l0_1 a0_2 a0_3 l0_4 l0_5) else (hopmeshref34_Largest.l0 k1 l1 x6_1 (wrap64 (x7_1 + 1)) a0_0 l0_1 a0_2 a0_3 l0_4 l0_5)))) else (hopmeshref34_Largest.l0 k1 l1 x6_1 (wrap64 (x7_1 + 1)) a0_0 l0_1 a0_2 a0_3 l0_4 l0_5)) = some (r1, r2) := H
      have A17 := Aside0.mk A170
      clear A170
      by_cases c18 : t463 = true
      ·
       subst c18
       have H1 : ((hopmeshref34_Cells.f k1 t457).bind fun t464 => ((hopmeshref34_Good.f k1 a0_0 l0_1 a0_2 a0_3 l0_4 l0_5 t464).bind fun t467 => (if t467 = true then (hopmeshref34_Largest.l0 k1 l1 t458 (wrap64 (x7_1 + 1)) a0_0 l0_1 a0_2 a0_3 l0_4 l0_5) else (hopmeshref34_Largest.l0 k1 l1 x6_1 (wrap64 (x7_1 + 1)) a0_0 l0_1 a0_2 a0_3 l0_4 l0_5)))) = some (r1, r2) := by rw [if_pos rfl] at H; exact H
       clear H
       have H := H1
       clear H1
       replace H := Option.bind_eq_some_iff.mp H
       obtain ⟨t464, A190, H⟩ := H
       replace H : ((hopmeshref34_Good.f k1 a0_0 l0_1 a0_2 a0_3 l0_4 l0_5 t464).bind fun t467 => (if t467 = true then (hopmeshref34_Largest.l0 k1 l1 t458 (wrap64 (x7_1 + 1)) a0_0 l0_1 a0_2 a0_3 l0_4 l0_5) else (hopmeshref34_Largest.l0 k1 l1 x6_1 (wrap64 (x7_1 + 1)) a0_0 l0_1 a0_2 a0_3 l0_4 l0_5))) = some (r1, r2) := H
       have A19 := Aside0.mk A190
       clear A190
       replace H := Option.bind_eq_some_iff.mp H
       obtain ⟨t467, A200, H⟩ := H
       replace H : (if t467 = true then (hopmeshref34_Largest.l0 k1 l1 t458 (wrap64 (x7_1 + 1)) a0_0 l0_1 a0_2 a0_3 l0_4 l0_5) else (hopmeshref34_Largest.l0 k1 l1 x6_1 (wrap64 (x7_1 + 1)) a0_0 l0_1 a0_2 a0_3 l0_4 l0_5)) = some (r1, r2) := H
       have A20 := Aside0.mk A200
       clear A200
       by_cases c21 : t467 = true
       ·
        subst c21
        have H1 : (hopmeshref34_Largest.l0 k1 l1 t458 (wrap64 (x7_1 + 1)) a0_0 l0_1 a0_2 a0_3 l0_4 l0_5) = some (r1, r2) := by rw [if_pos rfl] at H; exact H
        clear H
        have H := H1
        clear H1
        have H' := Aside0.mk H
        clear H
        try go_wp2_with (first | ((with_reducible refine gate_callee (f := 55) rfl ?_); refine goesL_ (some 27) rfl rfl Try.func55 (by kernel_rfl) rfl #[.slice A1 l1.length c1, .int .i64 x7_1] rfl am_ ?_; (with_reducible refine (hopmeshref34_Some.calls k1 _ _ l1 x7_1 t457 t458 _ ?side1 ?side2 A16.out).mono ?_); (case side1 => exact cb_); (case side2 => exact HC1.out); rintro e w22 ⟨v459, v461, rfl, ho0, ho1, hb⟩; refine ⟨_, rfl, ?_⟩; have n0_ := Aside0.mk (Kd.R_elder' (kr_ HO_6) (Kd.R_base ho1) hb); have n1_ := Aside0.mk (Kd.R_lower ho0 (below_size hb_)); have n2_ := Aside0.mk (Kd.R_lower (Kd.R_new' ho1 (Kd.R_lt (kr_ HO_6))) (below_size hb_)); have n3_ := bk_ BK452 hb; have n4_ := Aside0.mk (below_step hb_ hb); clear HO_6; clear BK452; clear HB; have HO_6 := n0_; have HO460 := n1_; have HO462 := n2_; have BK452 := n3_; have HB := n4_; clear n0_ n1_ n2_ n3_ n4_; (try clear hb); (try clear hb2); (try clear hk); (try clear hi); (try clear ho0); (try clear ho1)))
        have n0_ := Aside0.mk (Kd.R_drew HO_6.out)
        have n1_ := Aside0.mk (Kd.R_drew HO460.out)
        have n2_ := Aside0.mk (Kd.R_drew HO462.out)
        have n3_ := Aside0.mk (blk_drew BK452.out)
        have n4_ := Aside0.mk (below_drew1 HB.out)
        clear HO_6
        clear HO460
        clear HO462
        clear BK452
        clear HB
        have HO_6 := n0_
        have HO460 := n1_
        have HO462 := n2_
        have BK452 := n3_
        have HB := n4_
        clear n0_ n1_ n2_ n3_ n4_
        obtain ⟨Ao24, co24, eo24⟩ := Kd.R_slice HO462.out
        (first | subst eo24 | (injection eo24 with f1_ f2_ f3_; have f4_ := f1_.symm; have f5_ := f3_.symm; clear f1_ f2_ f3_; subst f4_; subst f5_))
        obtain ⟨Ao25, co25, eo25⟩ := Kd.R_slice HO_6.out
        (first | subst eo25 | (injection eo25 with f1_ f2_ f3_; have f4_ := f1_.symm; have f5_ := f3_.symm; clear f1_ f2_ f3_; subst f4_; subst f5_))
        refine start_ (n := 9) (S := fun w' => w'.cell? ⟨gb452, 0, none⟩ = some (.int .i64 a0_0) ∧ w'.cell? ⟨gb452, 1, none⟩ = some (.slice A0_1 l0_1.length c0_1) ∧ w'.cell? ⟨gb452, 2, none⟩ = some (.int .i64 a0_2) ∧ w'.cell? ⟨gb452, 3, none⟩ = some (.int .i64 a0_3) ∧ w'.cell? ⟨gb452, 4, none⟩ = some (.slice A0_4 l0_4.length c0_4) ∧ w'.cell? ⟨gb452, 5, none⟩ = some (.slice A0_5 l0_5.length c0_5)) (ds := []) #[false, false, false, false, false, false, false, false, false] (by kernel_rfl) rfl rfl ⟨(blk_cell BK452.out 0).trans rfl, (blk_cell BK452.out 1).trans rfl, (blk_cell BK452.out 2).trans rfl, (blk_cell BK452.out 3).trans rfl, (blk_cell BK452.out 4).trans rfl, (blk_cell BK452.out 5).trans rfl⟩ (fun hHeld => ?_); refine with_tabW hopmeshref34_Largest.tab10 hopmeshref34_Largest.bits10 (fun HT_ HW_ => ?_)
        generalize w22.drew = w23 at HO_6 HO460 HO462 BK452 HB hHeld ⊢
        refine pu_ HT_ 0 30 (bl 9 1) ?_
        refine pu_ HT_ 1 31 (bl 9 3) ?_
        refine one_ (i := 2) (N := some 32) (bl 9 7) rfl rfl (one_of HT_.out (by kernel_rfl)) (by decide) (fun K hK => ?_)
        refine goes_ Try.func56 (by kernel_rfl) rfl #[.slice Ao24 t458.length co24, .slice Ao25 x6_1.length co25] (by rfl) rfl rfl am_ ?_
        with_reducible refine (hopmeshref34_before.calls k1 _ _ t458 _ _ x6_1 true _ ?side1 ?side2 ?side3 ?side4 A17.out).mono ?_
        (case side1 => repeat (first | exact (Kd.R_reads' HO462.out).2.2 | (with_reducible refine Kd.C_alloc ?_ _) | (with_reducible refine Kd.C_drewN ?_ _) | (with_reducible refine Kd.C_drew ?_)))
        (case side2 => exact (Kd.R_reads' HO462.out).2.1)
        (case side3 => repeat (first | exact (Kd.R_reads' HO_6.out).2.2 | (with_reducible refine Kd.C_alloc ?_ _) | (with_reducible refine Kd.C_drewN ?_ _) | (with_reducible refine Kd.C_drew ?_)))
        (case side4 => exact (Kd.R_reads' HO_6.out).2.1)
        rintro e w' ⟨rfl, ⟨nd, rfl⟩⟩
        refine ⟨_, rfl, ?_⟩
        obtain ⟨Ao26, co26, eo26⟩ := Kd.R_slice HO460.out
        (first | subst eo26 | (injection eo26 with f1_ f2_ f3_; have f4_ := f1_.symm; have f5_ := f3_.symm; clear f1_ f2_ f3_; subst f4_; subst f5_))
        refine hK.out _ _ ⟨(blk_cell BK452.out 0).trans rfl, (blk_cell BK452.out 1).trans rfl, (blk_cell BK452.out 2).trans rfl, (blk_cell BK452.out 3).trans rfl, (blk_cell BK452.out 4).trans rfl, (blk_cell BK452.out 5).trans rfl⟩ (fun hHeld => ?_)
        clear hK K
        refine norm_ (a' := ?_) ?_ ?_
        rotate_left
        ·
         show Act.put _ (some 32) _ = _
         simp only [ap_, s0_, s1_, i64_w]
         rfl
        refine pu_ HT_ 3 33 (bl 9 15) ?_
        refine pu_ HT_ 5 35 (bl 9 47) ?_
        refine tk_ HT_ HW_ hHeld 4 34 (bl 9 63) ?_
        refine one_ (i := 6) (N := some 36) (bl 9 127) rfl rfl (one_of HT_.out (by kernel_rfl)) (by decide) (fun K hK => ?_)
        refine goes_ Try.func50 (by kernel_rfl) rfl #[.slice Ao26 t457.length co26] (by rfl) rfl rfl am_ ?_
        with_reducible refine (hopmeshref34_Cells.calls k1 _ _ t457 t464 _ ?side1 ?side2 A19.out).mono ?_
        (case side1 => repeat (first | exact (Kd.R_reads' HO460.out).2.2 | (with_reducible refine Kd.C_alloc ?_ _) | (with_reducible refine Kd.C_drewN ?_ _) | (with_reducible refine Kd.C_drew ?_)))
        (case side2 => exact (Kd.R_reads' HO460.out).2.1)
        rintro e w27 ⟨v465, rfl, ho0, hb⟩
        refine ⟨_, rfl, ?_⟩
        have n0_ := Aside0.mk (Kd.R_below (kr_ HO_6) hb)
        have n1_ := Aside0.mk (Kd.R_below (kr_ HO460) hb)
        have n2_ := Aside0.mk (Kd.R_below (kr_ HO462) hb)
        have n3_ := Aside0.mk (Kd.R_lower ho0 (below_size hb_))
        have n4_ := bk_ BK452 hb
        have n5_ := Aside0.mk (below_step hb_ hb)
        clear HO_6
        clear HO460
        clear HO462
        clear BK452
        clear HB
        have HO_6 := n0_
        have HO460 := n1_
        have HO462 := n2_
        have HO466 := n3_
        have BK452 := n4_
        have HB := n5_
        clear n0_ n1_ n2_ n3_ n4_ n5_
        (try clear hb)
        (try clear hb2)
        (try clear hk)
        (try clear hi)
        (try clear ho0)
        obtain ⟨Ao28, co28, eo28⟩ := Kd.R_slice HO466.out
        (first | subst eo28 | (injection eo28 with f1_ f2_ f3_; have f4_ := f1_.symm; have f5_ := f3_.symm; clear f1_ f2_ f3_; subst f4_; subst f5_))
        refine hK.out _ _ ⟨(blk_cell BK452.out 0).trans rfl, (blk_cell BK452.out 1).trans rfl, (blk_cell BK452.out 2).trans rfl, (blk_cell BK452.out 3).trans rfl, (blk_cell BK452.out 4).trans rfl, (blk_cell BK452.out 5).trans rfl⟩ (fun hHeld => ?_)
        clear hK K
        refine norm_ (a' := ?_) ?_ ?_
        rotate_left
        ·
         show Act.put _ (some 36) _ = _
         simp only [ap_, s0_, s1_, i64_w]
         rfl
        refine one_ (i := 7) (N := some 37) (bl 9 255) rfl rfl (one_of HT_.out (by kernel_rfl)) (by decide) (fun K hK => ?_)
        refine goes_ Try.func22 (by kernel_rfl) rfl #[.agg #[.int .i64 a0_0, .slice A0_1 l0_1.length c0_1, .int .i64 a0_2, .int .i64 a0_3, .slice A0_4 l0_4.length c0_4, .slice A0_5 l0_5.length c0_5], .slice Ao28 t464.length co28] (by rfl) rfl rfl am_ ?_
        with_reducible refine (hopmeshref34_Good.calls k1 a0_0 _ _ l0_1 a0_2 a0_3 _ _ l0_4 _ _ l0_5 _ _ t464 true _ ?side1 ?side2 ?side3 ?side4 ?side5 ?side6 ?side7 ?side8 A20.out).mono ?_
        (case side1 | side3 | side5 => exact cb_)
        (case side2 | side4 | side6 => first | exact HC0_1.out | exact HC0_4.out | exact HC0_5.out)
        (case side7 => repeat (first | exact (Kd.R_reads' HO466.out).2.2 | (with_reducible refine Kd.C_alloc ?_ _) | (with_reducible refine Kd.C_drewN ?_ _) | (with_reducible refine Kd.C_drew ?_)))
        (case side8 => exact (Kd.R_reads' HO466.out).2.1)
        rintro e w29 ⟨rfl, hb⟩
        refine ⟨_, rfl, ?_⟩
        have n0_ := Aside0.mk (Kd.R_below (kr_ HO_6) hb)
        have n1_ := Aside0.mk (Kd.R_below (kr_ HO460) hb)
        have n2_ := Aside0.mk (Kd.R_below (kr_ HO462) hb)
        have n3_ := Aside0.mk (Kd.R_below (kr_ HO466) hb)
        have n4_ := bk_ BK452 hb
        have n5_ := Aside0.mk (below_step hb_ hb)
        clear HO_6
        clear HO460
        clear HO462
        clear HO466
        clear BK452
        clear HB
        have HO_6 := n0_
        have HO460 := n1_
        have HO462 := n2_
        have HO466 := n3_
        have BK452 := n4_
        have HB := n5_
        clear n0_ n1_ n2_ n3_ n4_ n5_
        (try clear hb)
        (try clear hb2)
        (try clear hk)
        (try clear hi)
        refine hK.out _ _ ⟨(blk_cell BK452.out 0).trans rfl, (blk_cell BK452.out 1).trans rfl, (blk_cell BK452.out 2).trans rfl, (blk_cell BK452.out 3).trans rfl, (blk_cell BK452.out 4).trans rfl, (blk_cell BK452.out 5).trans rfl⟩ (fun hHeld => ?_)
        clear hK K
        refine norm_ (a' := ?_) ?_ ?_
        rotate_left
        ·
         show Act.put _ (some 37) _ = _
         simp only [ap_, s0_, s1_, i64_w]
         rfl
        refine pu_ HT_ 8 38 (bl 9 511) ?_
        refine done_ (done_of HT_.out (by kernel_rfl)) ?_
        try go_wp2
        go_roundg k1
        case measure => have := HK1.out; omega
        case rel => exact ⟨(t458), (wrap64 (x7_1 + 1)), rl_, H', ⟨by have := HK1.out; omega⟩, ⟨by (with_reducible repeat (first | apply Kd.R_alloc | apply Kd.R_drewN | apply Kd.R_drew)); exact Kd.R_mono HO462.out (fun _ hk => trivial)⟩, ⟨bj_ BK452⟩, ⟨hb_⟩⟩
       ·
        replace c21 := Bool.eq_false_iff.mpr c21
        subst c21
        have H1 : (hopmeshref34_Largest.l0 k1 l1 x6_1 (wrap64 (x7_1 + 1)) a0_0 l0_1 a0_2 a0_3 l0_4 l0_5) = some (r1, r2) := by rw [if_neg (show ¬ (false = true) by decide)] at H; exact H
        clear H
        have H := H1
        clear H1
        have H' := Aside0.mk H
        clear H
        try go_wp2_with (first | ((with_reducible refine gate_callee (f := 55) rfl ?_); refine goesL_ (some 27) rfl rfl Try.func55 (by kernel_rfl) rfl #[.slice A1 l1.length c1, .int .i64 x7_1] rfl am_ ?_; (with_reducible refine (hopmeshref34_Some.calls k1 _ _ l1 x7_1 t457 t458 _ ?side1 ?side2 A16.out).mono ?_); (case side1 => exact cb_); (case side2 => exact HC1.out); rintro e w30 ⟨v459, v461, rfl, ho0, ho1, hb⟩; refine ⟨_, rfl, ?_⟩; have n0_ := Aside0.mk (Kd.R_elder' (kr_ HO_6) (Kd.R_base ho1) hb); have n1_ := Aside0.mk (Kd.R_lower ho0 (below_size hb_)); have n2_ := Aside0.mk (Kd.R_lower (Kd.R_new' ho1 (Kd.R_lt (kr_ HO_6))) (below_size hb_)); have n3_ := bk_ BK452 hb; have n4_ := Aside0.mk (below_step hb_ hb); clear HO_6; clear BK452; clear HB; have HO_6 := n0_; have HO460 := n1_; have HO462 := n2_; have BK452 := n3_; have HB := n4_; clear n0_ n1_ n2_ n3_ n4_; (try clear hb); (try clear hb2); (try clear hk); (try clear hi); (try clear ho0); (try clear ho1)))
        have n0_ := Aside0.mk (Kd.R_drew HO_6.out)
        have n1_ := Aside0.mk (Kd.R_drew HO460.out)
        have n2_ := Aside0.mk (Kd.R_drew HO462.out)
        have n3_ := Aside0.mk (blk_drew BK452.out)
        have n4_ := Aside0.mk (below_drew1 HB.out)
        clear HO_6
        clear HO460
        clear HO462
        clear BK452
        clear HB
        have HO_6 := n0_
        have HO460 := n1_
        have HO462 := n2_
        have BK452 := n3_
        have HB := n4_
        clear n0_ n1_ n2_ n3_ n4_
        obtain ⟨Ao32, co32, eo32⟩ := Kd.R_slice HO462.out
        (first | subst eo32 | (injection eo32 with f1_ f2_ f3_; have f4_ := f1_.symm; have f5_ := f3_.symm; clear f1_ f2_ f3_; subst f4_; subst f5_))
        obtain ⟨Ao33, co33, eo33⟩ := Kd.R_slice HO_6.out
        (first | subst eo33 | (injection eo33 with f1_ f2_ f3_; have f4_ := f1_.symm; have f5_ := f3_.symm; clear f1_ f2_ f3_; subst f4_; subst f5_))
        refine start_ (n := 9) (S := fun w' => w'.cell? ⟨gb452, 0, none⟩ = some (.int .i64 a0_0) ∧ w'.cell? ⟨gb452, 1, none⟩ = some (.slice A0_1 l0_1.length c0_1) ∧ w'.cell? ⟨gb452, 2, none⟩ = some (.int .i64 a0_2) ∧ w'.cell? ⟨gb452, 3, none⟩ = some (.int .i64 a0_3) ∧ w'.cell? ⟨gb452, 4, none⟩ = some (.slice A0_4 l0_4.length c0_4) ∧ w'.cell? ⟨gb452, 5, none⟩ = some (.slice A0_5 l0_5.length c0_5)) (ds := []) #[false, false, false, false, false, false, false, false, false] (by kernel_rfl) rfl rfl ⟨(blk_cell BK452.out 0).trans rfl, (blk_cell BK452.out 1).trans rfl, (blk_cell BK452.out 2).trans rfl, (blk_cell BK452.out 3).trans rfl, (blk_cell BK452.out 4).trans rfl, (blk_cell BK452.out 5).trans rfl⟩ (fun hHeld => ?_); refine with_tabW hopmeshref34_Largest.tab10 hopmeshref34_Largest.bits10 (fun HT_ HW_ => ?_)
        generalize w30.drew = w31 at HO_6 HO460 HO462 BK452 HB hHeld ⊢
        refine pu_ HT_ 0 30 (bl 9 1) ?_
        refine pu_ HT_ 1 31 (bl 9 3) ?_
        refine one_ (i := 2) (N := some 32) (bl 9 7) rfl rfl (one_of HT_.out (by kernel_rfl)) (by decide) (fun K hK => ?_)
        refine goes_ Try.func56 (by kernel_rfl) rfl #[.slice Ao32 t458.length co32, .slice Ao33 x6_1.length co33] (by rfl) rfl rfl am_ ?_
        with_reducible refine (hopmeshref34_before.calls k1 _ _ t458 _ _ x6_1 true _ ?side1 ?side2 ?side3 ?side4 A17.out).mono ?_
        (case side1 => repeat (first | exact (Kd.R_reads' HO462.out).2.2 | (with_reducible refine Kd.C_alloc ?_ _) | (with_reducible refine Kd.C_drewN ?_ _) | (with_reducible refine Kd.C_drew ?_)))
        (case side2 => exact (Kd.R_reads' HO462.out).2.1)
        (case side3 => repeat (first | exact (Kd.R_reads' HO_6.out).2.2 | (with_reducible refine Kd.C_alloc ?_ _) | (with_reducible refine Kd.C_drewN ?_ _) | (with_reducible refine Kd.C_drew ?_)))
        (case side4 => exact (Kd.R_reads' HO_6.out).2.1)
        rintro e w' ⟨rfl, ⟨nd, rfl⟩⟩
        refine ⟨_, rfl, ?_⟩
        obtain ⟨Ao34, co34, eo34⟩ := Kd.R_slice HO460.out
        (first | subst eo34 | (injection eo34 with f1_ f2_ f3_; have f4_ := f1_.symm; have f5_ := f3_.symm; clear f1_ f2_ f3_; subst f4_; subst f5_))
        refine hK.out _ _ ⟨(blk_cell BK452.out 0).trans rfl, (blk_cell BK452.out 1).trans rfl, (blk_cell BK452.out 2).trans rfl, (blk_cell BK452.out 3).trans rfl, (blk_cell BK452.out 4).trans rfl, (blk_cell BK452.out 5).trans rfl⟩ (fun hHeld => ?_)
        clear hK K
        refine norm_ (a' := ?_) ?_ ?_
        rotate_left
        ·
         show Act.put _ (some 32) _ = _
         simp only [ap_, s0_, s1_, i64_w]
         rfl
        refine pu_ HT_ 3 33 (bl 9 15) ?_
        refine pu_ HT_ 5 35 (bl 9 47) ?_
        refine tk_ HT_ HW_ hHeld 4 34 (bl 9 63) ?_
        refine one_ (i := 6) (N := some 36) (bl 9 127) rfl rfl (one_of HT_.out (by kernel_rfl)) (by decide) (fun K hK => ?_)
        refine goes_ Try.func50 (by kernel_rfl) rfl #[.slice Ao34 t457.length co34] (by rfl) rfl rfl am_ ?_
        with_reducible refine (hopmeshref34_Cells.calls k1 _ _ t457 t464 _ ?side1 ?side2 A19.out).mono ?_
        (case side1 => repeat (first | exact (Kd.R_reads' HO460.out).2.2 | (with_reducible refine Kd.C_alloc ?_ _) | (with_reducible refine Kd.C_drewN ?_ _) | (with_reducible refine Kd.C_drew ?_)))
        (case side2 => exact (Kd.R_reads' HO460.out).2.1)
        rintro e w35 ⟨v465, rfl, ho0, hb⟩
        refine ⟨_, rfl, ?_⟩
        have n0_ := Aside0.mk (Kd.R_below (kr_ HO_6) hb)
        have n1_ := Aside0.mk (Kd.R_below (kr_ HO460) hb)
        have n2_ := Aside0.mk (Kd.R_below (kr_ HO462) hb)
        have n3_ := Aside0.mk (Kd.R_lower ho0 (below_size hb_))
        have n4_ := bk_ BK452 hb
        have n5_ := Aside0.mk (below_step hb_ hb)
        clear HO_6
        clear HO460
        clear HO462
        clear BK452
        clear HB
        have HO_6 := n0_
        have HO460 := n1_
        have HO462 := n2_
        have HO466 := n3_
        have BK452 := n4_
        have HB := n5_
        clear n0_ n1_ n2_ n3_ n4_ n5_
        (try clear hb)
        (try clear hb2)
        (try clear hk)
        (try clear hi)
        (try clear ho0)
        obtain ⟨Ao36, co36, eo36⟩ := Kd.R_slice HO466.out
        (first | subst eo36 | (injection eo36 with f1_ f2_ f3_; have f4_ := f1_.symm; have f5_ := f3_.symm; clear f1_ f2_ f3_; subst f4_; subst f5_))
        refine hK.out _ _ ⟨(blk_cell BK452.out 0).trans rfl, (blk_cell BK452.out 1).trans rfl, (blk_cell BK452.out 2).trans rfl, (blk_cell BK452.out 3).trans rfl, (blk_cell BK452.out 4).trans rfl, (blk_cell BK452.out 5).trans rfl⟩ (fun hHeld => ?_)
        clear hK K
        refine norm_ (a' := ?_) ?_ ?_
        rotate_left
        ·
         show Act.put _ (some 36) _ = _
         simp only [ap_, s0_, s1_, i64_w]
         rfl
        refine one_ (i := 7) (N := some 37) (bl 9 255) rfl rfl (one_of HT_.out (by kernel_rfl)) (by decide) (fun K hK => ?_)
        refine goes_ Try.func22 (by kernel_rfl) rfl #[.agg #[.int .i64 a0_0, .slice A0_1 l0_1.length c0_1, .int .i64 a0_2, .int .i64 a0_3, .slice A0_4 l0_4.length c0_4, .slice A0_5 l0_5.length c0_5], .slice Ao36 t464.length co36] (by rfl) rfl rfl am_ ?_
        with_reducible refine (hopmeshref34_Good.calls k1 a0_0 _ _ l0_1 a0_2 a0_3 _ _ l0_4 _ _ l0_5 _ _ t464 false _ ?side1 ?side2 ?side3 ?side4 ?side5 ?side6 ?side7 ?side8 A20.out).mono ?_
        (case side1 | side3 | side5 => exact cb_)
        (case side2 | side4 | side6 => first | exact HC0_1.out | exact HC0_4.out | exact HC0_5.out)
        (case side7 => repeat (first | exact (Kd.R_reads' HO466.out).2.2 | (with_reducible refine Kd.C_alloc ?_ _) | (with_reducible refine Kd.C_drewN ?_ _) | (with_reducible refine Kd.C_drew ?_)))
        (case side8 => exact (Kd.R_reads' HO466.out).2.1)
        rintro e w37 ⟨rfl, hb⟩
        refine ⟨_, rfl, ?_⟩
        have n0_ := Aside0.mk (Kd.R_below (kr_ HO_6) hb)
        have n1_ := Aside0.mk (Kd.R_below (kr_ HO460) hb)
        have n2_ := Aside0.mk (Kd.R_below (kr_ HO462) hb)
        have n3_ := Aside0.mk (Kd.R_below (kr_ HO466) hb)
        have n4_ := bk_ BK452 hb
        have n5_ := Aside0.mk (below_step hb_ hb)
        clear HO_6
        clear HO460
        clear HO462
        clear HO466
        clear BK452
        clear HB
        have HO_6 := n0_
        have HO460 := n1_
        have HO462 := n2_
        have HO466 := n3_
        have BK452 := n4_
        have HB := n5_
        clear n0_ n1_ n2_ n3_ n4_ n5_
        (try clear hb)
        (try clear hb2)
        (try clear hk)
        (try clear hi)
        refine hK.out _ _ ⟨(blk_cell BK452.out 0).trans rfl, (blk_cell BK452.out 1).trans rfl, (blk_cell BK452.out 2).trans rfl, (blk_cell BK452.out 3).trans rfl, (blk_cell BK452.out 4).trans rfl, (blk_cell BK452.out 5).trans rfl⟩ (fun hHeld => ?_)
        clear hK K
        refine norm_ (a' := ?_) ?_ ?_
        rotate_left
        ·
         show Act.put _ (some 37) _ = _
         simp only [ap_, s0_, s1_, i64_w]
         rfl
        refine pu_ HT_ 8 38 (bl 9 511) ?_
        refine done_ (done_of HT_.out (by kernel_rfl)) ?_
        try go_wp2
        go_roundg k1
        case measure => have := HK1.out; omega
        case rel => exact ⟨(x6_1), (wrap64 (x7_1 + 1)), rl_, H', ⟨by have := HK1.out; omega⟩, ⟨by (with_reducible repeat (first | apply Kd.R_alloc | apply Kd.R_drewN | apply Kd.R_drew)); exact Kd.R_mono HO_6.out (fun _ hk => trivial)⟩, ⟨bj_ BK452⟩, ⟨hb_⟩⟩
      ·
       replace c18 := Bool.eq_false_iff.mpr c18
       subst c18
       have H1 : (hopmeshref34_Largest.l0 k1 l1 x6_1 (wrap64 (x7_1 + 1)) a0_0 l0_1 a0_2 a0_3 l0_4 l0_5) = some (r1, r2) := by rw [if_neg (show ¬ (false = true) by decide)] at H; exact H
       clear H
       have H := H1
       clear H1
       have H' := Aside0.mk H
       clear H
       try go_wp2_with (first | ((with_reducible refine gate_callee (f := 55) rfl ?_); refine goesL_ (some 27) rfl rfl Try.func55 (by kernel_rfl) rfl #[.slice A1 l1.length c1, .int .i64 x7_1] rfl am_ ?_; (with_reducible refine (hopmeshref34_Some.calls k1 _ _ l1 x7_1 t457 t458 _ ?side1 ?side2 A16.out).mono ?_); (case side1 => exact cb_); (case side2 => exact HC1.out); rintro e w38 ⟨v459, v461, rfl, ho0, ho1, hb⟩; refine ⟨_, rfl, ?_⟩; have n0_ := Aside0.mk (Kd.R_elder' (kr_ HO_6) (Kd.R_base ho1) hb); have n1_ := Aside0.mk (Kd.R_lower ho0 (below_size hb_)); have n2_ := Aside0.mk (Kd.R_lower (Kd.R_new' ho1 (Kd.R_lt (kr_ HO_6))) (below_size hb_)); have n3_ := bk_ BK452 hb; have n4_ := Aside0.mk (below_step hb_ hb); clear HO_6; clear BK452; clear HB; have HO_6 := n0_; have HO460 := n1_; have HO462 := n2_; have BK452 := n3_; have HB := n4_; clear n0_ n1_ n2_ n3_ n4_; (try clear hb); (try clear hb2); (try clear hk); (try clear hi); (try clear ho0); (try clear ho1)))
       have n0_ := Aside0.mk (Kd.R_drew HO_6.out)
       have n1_ := Aside0.mk (Kd.R_drew HO460.out)
       have n2_ := Aside0.mk (Kd.R_drew HO462.out)
       have n3_ := Aside0.mk (blk_drew BK452.out)
       have n4_ := Aside0.mk (below_drew1 HB.out)
       clear HO_6
       clear HO460
       clear HO462
       clear BK452
       clear HB
       have HO_6 := n0_
       have HO460 := n1_
       have HO462 := n2_
       have BK452 := n3_
       have HB := n4_
       clear n0_ n1_ n2_ n3_ n4_
       obtain ⟨Ao40, co40, eo40⟩ := Kd.R_slice HO462.out
       (first | subst eo40 | (injection eo40 with f1_ f2_ f3_; have f4_ := f1_.symm; have f5_ := f3_.symm; clear f1_ f2_ f3_; subst f4_; subst f5_))
       obtain ⟨Ao41, co41, eo41⟩ := Kd.R_slice HO_6.out
       (first | subst eo41 | (injection eo41 with f1_ f2_ f3_; have f4_ := f1_.symm; have f5_ := f3_.symm; clear f1_ f2_ f3_; subst f4_; subst f5_))
       refine start_ (n := 9) (S := fun w' => True) (ds := []) #[false, false, false, false, false, false, false, false, false] (by kernel_rfl) rfl rfl trivial (fun hHeld => ?_); refine with_tabW hopmeshref34_Largest.tab10 hopmeshref34_Largest.bits10 (fun HT_ HW_ => ?_)
       generalize w38.drew = w39 at HO_6 HO460 HO462 BK452 HB hHeld ⊢
       refine pu_ HT_ 0 30 (bl 9 1) ?_
       refine pu_ HT_ 1 31 (bl 9 3) ?_
       refine one_ (i := 2) (N := some 32) (bl 9 7) rfl rfl (one_of HT_.out (by kernel_rfl)) (by decide) (fun K hK => ?_)
       refine goes_ Try.func56 (by kernel_rfl) rfl #[.slice Ao40 t458.length co40, .slice Ao41 x6_1.length co41] (by rfl) rfl rfl am_ ?_
       with_reducible refine (hopmeshref34_before.calls k1 _ _ t458 _ _ x6_1 false _ ?side1 ?side2 ?side3 ?side4 A17.out).mono ?_
       (case side1 => repeat (first | exact (Kd.R_reads' HO462.out).2.2 | (with_reducible refine Kd.C_alloc ?_ _) | (with_reducible refine Kd.C_drewN ?_ _) | (with_reducible refine Kd.C_drew ?_)))
       (case side2 => exact (Kd.R_reads' HO462.out).2.1)
       (case side3 => repeat (first | exact (Kd.R_reads' HO_6.out).2.2 | (with_reducible refine Kd.C_alloc ?_ _) | (with_reducible refine Kd.C_drewN ?_ _) | (with_reducible refine Kd.C_drew ?_)))
       (case side4 => exact (Kd.R_reads' HO_6.out).2.1)
       rintro e w' ⟨rfl, ⟨nd, rfl⟩⟩
       refine ⟨_, rfl, ?_⟩
       refine hK.out _ _ trivial (fun hHeld => ?_)
       clear hK K
       refine norm_ (a' := ?_) ?_ ?_
       rotate_left
       ·
        show Act.put _ (some 32) _ = _
        simp only [ap_, s0_, s1_, i64_w]
        rfl
       refine pu_ HT_ 3 33 (bl 9 15) ?_
       refine of_ HT_ 4 34 (bl 9 31) ?_
       refine of_ HT_ 5 35 (bl 9 63) ?_
       refine of_ HT_ 6 36 (bl 9 127) ?_
       refine of_ HT_ 7 37 (bl 9 255) ?_
       refine pu_ HT_ 8 38 (bl 9 511) ?_
       refine done_ (done_of HT_.out (by kernel_rfl)) ?_
       try go_wp2
       go_roundg k1
       case measure => have := HK1.out; omega
       case rel => exact ⟨(x6_1), (wrap64 (x7_1 + 1)), rl_, H', ⟨by have := HK1.out; omega⟩, ⟨by (with_reducible repeat (first | apply Kd.R_alloc | apply Kd.R_drewN | apply Kd.R_drew)); exact Kd.R_mono HO_6.out (fun _ hk => trivial)⟩, ⟨bj_ BK452⟩, ⟨hb_⟩⟩
     ·
      rw [if_neg c15] at H
      have c15b0 : decide (x7_1 < (ji14)) = false := decide_eq_false c15
      clear c15
      simp only [Option.some.injEq, Prod.mk.injEq] at H
      obtain ⟨rfl, rfl⟩ := H
      go_wp2
      go_ret2
      exact ⟨_, by first | rfl | (simp [errW_none, errW_some] <;> rfl) | (simp only [← hji14]; first | rfl | (simp [errW_none, errW_some] <;> rfl)) | (simp [*, errW_none, errW_some] <;> rfl), kr_ HO_6, hb_⟩
 ·
  rw [if_neg c4] at H
  have c4b0 : (t453 == 0) = false := beq_eq_false_iff_ne.mpr c4
  have c4b1 : (t453 != 0) = true := bne_iff_ne.mpr c4
  simp only [Option.some.injEq, Prod.mk.injEq] at H
  obtain ⟨rfl, rfl⟩ := H
  go_enter Try.func30, Try.ntmps30
  go_wp2_with (first | ((with_reducible refine gate_dst (N := 2) rfl ?_); refine bx_ 2 #[.int .i64 a0_0, .slice A0_1 l0_1.length c0_1, .int .i64 a0_2, .int .i64 a0_3, .slice A0_4 l0_4.length c0_4, .slice A0_5 l0_5.length c0_5] 26 ?_; intro gb452 hg w42 hbox hb; have n0_ := Aside0.mk (below_step hb_ hb); have n1_ := Aside0.mk (hbox); have n2_ := Aside0.mk ((by rw [hg]; exact (below_size hb_) : w.heap.size ≤ gb452)); have n3_ := Aside0.mk ((by rw [hg]; exact (below_size hb_) : w.heap.size ≤ gb452)); clear HB; have HB := n0_; have BK452 := n1_; have GW452 := n2_; have GE452 := n3_; clear n0_ n1_ n2_ n3_; clear hb hbox hg; have hcz43_0 := bc0 BK452; have hcz43_1 := bc1 BK452; have hcz43_2 := bc2 BK452; have hcz43_3 := bc3 BK452; have hcz43_4 := bc4 BK452; have hcz43_5 := bc5 BK452; have hfz43_0 := blk_frozen BK452.out 0; have hfz43_1 := blk_frozen BK452.out 1; have hfz43_2 := blk_frozen BK452.out 2; have hfz43_3 := blk_frozen BK452.out 3; have hfz43_4 := blk_frozen BK452.out 4; have hfz43_5 := blk_frozen BK452.out 5) | ((with_reducible refine gate_callee (f := 40) rfl ?_); refine goesL_ (some 11) rfl rfl Try.func40 (by kernel_rfl) rfl #[.agg #[.int .i64 a0_0, .slice A0_1 l0_1.length c0_1, .int .i64 a0_2, .int .i64 a0_3, .slice A0_4 l0_4.length c0_4, .slice A0_5 l0_5.length c0_5]] rfl am_ ?_; (with_reducible refine (hopmeshref31_Check.calls k a0_0 _ _ l0_1 a0_2 a0_3 _ _ l0_4 _ _ l0_5 t453 _ ?side1 ?side2 ?side3 ?side4 ?side5 ?side6 A3.out).mono ?_); (case side1 | side3 | side5 => exact cb_); (case side2 | side4 | side6 => first | exact HC0_1.out | exact HC0_4.out | exact HC0_5.out); rintro e w44 ⟨rfl, hb⟩; refine ⟨_, rfl, ?_⟩; have n0_ := bk_ BK452 hb; have n1_ := Aside0.mk (below_step hb_ hb); clear BK452; clear HB; have BK452 := n0_; have HB := n1_; clear n0_ n1_; (try clear hb); (try clear hb2); (try clear hk); (try clear hi)))
  go_ret2
  exact ⟨_, by first | rfl | (simp [errW_none, errW_some] <;> rfl) | (simp [*, errW_none, errW_some] <;> rfl), by first | exact Kd.R_nil _ _ _ _ _ | exact Kd.N_nil _ _ _ _ _ | exact Kd.V_nil _ _ _ _ _ | exact Kd.Q_nil _ _ _ _ _ | exact Kd.S_nil _ _ _ _ _, hb_⟩

end Go.Proofs.Ytibgcekekmphoaa.P34
