-- Written by a program of this session (wip/tools) over the kit's print; Lean checks it.
import Derived.Test.YtibgcekekmphoaaP340
import Derived.Test.YtibgcekekmphoaaP34B
import Derived.Test.YtibgcekekmphoaaP34Lc
namespace Go.Proofs.Ytibgcekekmphoaa.P34
open Go.RowKit Go.Proofs.YtibgcekekmphoaaW.PrintWords Go.Proofs.YtibgcekekmphoaaW.PrintLast Go.Proofs.YtibgcekekmphoaaW.PrintMore
attribute [local go_sem] max2_int min2_int max_two min_two max_three min_three max_four min_four   -- for this text's walks alone
set_option linter.unusedVariables false
set_option linter.unusedSimpArgs false

/-! ### conflict_Together: function 23 -/
def conflict_Together.f (k : Nat) (a0_0 : Int) (l0_1 : List (List Int)) (a0_2 : Int) (a0_3 : Int) (l0_4 : List (S44)) (l0_5 : List Int) (a1_0 : Int) (a1_1 : Int) (a1_2 : Int) (a2_0 : Int) (a2_1 : Int) (a2_2 : Int) : Option (Bool) := (conflict_cell.f a1_0 a1_1 a1_2).bind fun bt300 => ((conflict_cell.f a2_0 a2_1 a2_2).bind fun bt305 => ((conflict_Good.f k a0_0 l0_1 a0_2 a0_3 l0_4 l0_5 (([(⟨bt300.1, bt300.2.1, bt300.2.2.1, bt300.2.2.2.1, bt300.2.2.2.2⟩ : S36), (⟨bt305.1, bt305.2.1, bt305.2.2.1, bt305.2.2.2.1, bt305.2.2.2.2⟩ : S36)] : List (S36)))).bind fun t313 => (some t313)))
theorem conflict_Together.mono : ∀ a0 a1 a2 a3 a4 a5 a6 a7 a8 a9 a10 a11 k, LeO (conflict_Together.f k a0 a1 a2 a3 a4 a5 a6 a7 a8 a9 a10 a11) (conflict_Together.f (k + 1) a0 a1 a2 a3 a4 a5 a6 a7 a8 a9 a10 a11) := by
 intro a0 a1 a2 a3 a4 a5 a6 a7 a8 a9 a10 a11 k
 unfold conflict_Together.f
 repeat' first
   | (with_reducible exact conflict_Good.mono _ _ _ _ _ _ _ _)
   | (with_reducible exact LeO.refl _)
   | (with_reducible exact LeO.none _)
   | (with_reducible refine LeO.ite ?_ ?_)
   | (with_reducible refine LeO.bind ?_ (fun _ => ?_))
   | exact conflict_Good.mono _ _ _ _ _ _ _ _
   | exact LeO.none _
   | refine LeO.ite ?_ ?_
   | refine LeO.bind ?_ (fun _ => ?_)
def conflict_Together.T1 : Bool × List (List Nat × List Nat) := (true, [([], []), ([], []), ([1], [1]), ([], []), ([3, 2], [3]), ([2, 4], [2, 4]), ([0, 5, 4], [0, 5]), ([6, 6, 0, 1, 2, 3, 4, 5, 6], [6])])
def conflict_Together.B1 : List Nat := [0, 0, 2, 0, 14, 30, 63, 127]
theorem conflict_Together.tab1 : rtab .any (opsOf Try.f23 1) = conflict_Together.T1 := by kernel_rfl
theorem conflict_Together.bits1 : waitsOk conflict_Together.T1.2 conflict_Together.B1 = true := by kernel_rfl
set_option maxHeartbeats 8000000 in
set_option maxRecDepth 100000 in
theorem conflict_Together.calls (k : Nat) (a0_0 : Int) (A0_1 : Option Addr) (c0_1 : Nat) (l0_1 : List (List Int)) (a0_2 : Int) (a0_3 : Int) (A0_4 : Option Addr) (c0_4 : Nat) (l0_4 : List (S44)) (A0_5 : Option Addr) (c0_5 : Nat) (l0_5 : List Int) (a1_0 : Int) (a1_1 : Int) (a1_2 : Int) (a2_0 : Int) (a2_1 : Int) (a2_2 : Int) (r : Bool) (w : World) (hr0_1 : Kd.C (Kd.slice 3 (Kd.int .i64)) w A0_1 l0_1.length l0_1) (hc0_1 : l0_1.length ≤ c0_1) (hr0_4 : Kd.C k44 w A0_4 l0_4.length l0_4) (hc0_4 : l0_4.length ≤ c0_4) (hr0_5 : Kd.C (Kd.int .i64) w A0_5 l0_5.length l0_5) (hc0_5 : l0_5.length ≤ c0_5) (h : conflict_Together.f k a0_0 l0_1 a0_2 a0_3 l0_4 l0_5 a1_0 a1_1 a1_2 a2_0 a2_1 a2_2 = some r) :
  Calls Try.prog 23 #[.agg #[.int .i64 a0_0, .slice A0_1 l0_1.length c0_1, .int .i64 a0_2, .int .i64 a0_3, .slice A0_4 l0_4.length c0_4, .slice A0_5 l0_5.length c0_5], .agg #[.int .i64 a1_0, .int .i64 a1_1, .int .i64 a1_2], .agg #[.int .i64 a2_0, .int .i64 a2_1, .int .i64 a2_2]] w fun e w' => e = .returned (.bool r) ∧ Below w.heap.size w w' := by
 have hu26 := Try.underlying26
 have hu44 := Try.underlying44
 have HR0_1 := Aside0.mk hr0_1
 have HC0_1 := Aside0.mk hc0_1
 clear hr0_1 hc0_1
 have HR0_4 := Aside0.mk hr0_4
 have HC0_4 := Aside0.mk hc0_4
 clear hr0_4 hc0_4
 have HR0_5 := Aside0.mk hr0_5
 have HC0_5 := Aside0.mk hc0_5
 clear hr0_5 hc0_5
 have HB := Aside0.mk (Below.refl w.heap.size w)
 have H : ((conflict_cell.f a1_0 a1_1 a1_2).bind fun bt300 => ((conflict_cell.f a2_0 a2_1 a2_2).bind fun bt305 => ((conflict_Good.f k a0_0 l0_1 a0_2 a0_3 l0_4 l0_5 (([(⟨bt300.1, bt300.2.1, bt300.2.2.1, bt300.2.2.2.1, bt300.2.2.2.2⟩ : S36), (⟨bt305.1, bt305.2.1, bt305.2.2.1, bt305.2.2.2.1, bt305.2.2.2.2⟩ : S36)] : List (S36)))).bind fun t313 => (some t313)))) = some r := h
 clear h
 replace H := Option.bind_eq_some_iff.mp H
 obtain ⟨⟨t300, t301, t302, t303, t304⟩, A40, H⟩ := H
 replace H : ((conflict_cell.f a2_0 a2_1 a2_2).bind fun bt305 => ((conflict_Good.f k a0_0 l0_1 a0_2 a0_3 l0_4 l0_5 (([(⟨t300, t301, t302, t303, t304⟩ : S36), (⟨bt305.1, bt305.2.1, bt305.2.2.1, bt305.2.2.2.1, bt305.2.2.2.2⟩ : S36)] : List (S36)))).bind fun t313 => (some t313))) = some r := H
 have A4 := Aside0.mk A40
 clear A40
 replace H := Option.bind_eq_some_iff.mp H
 obtain ⟨⟨t305, t306, t307, t308, t309⟩, A50, H⟩ := H
 replace H : ((conflict_Good.f k a0_0 l0_1 a0_2 a0_3 l0_4 l0_5 (([(⟨t300, t301, t302, t303, t304⟩ : S36), (⟨t305, t306, t307, t308, t309⟩ : S36)] : List (S36)))).bind fun t313 => (some t313)) = some r := H
 have A5 := Aside0.mk A50
 clear A50
 obtain ⟨y310, hy310⟩ : ∃ y_ : List (S36), y_ = (([(⟨t300, t301, t302, t303, t304⟩ : S36), (⟨t305, t306, t307, t308, t309⟩ : S36)] : List (S36))) := ⟨_, rfl⟩
 replace H : ((conflict_Good.f k a0_0 l0_1 a0_2 a0_3 l0_4 l0_5 y310).bind fun t313 => (some t313)) = some r := by first | (rw [hy310]; with_reducible exact H) | (have H2_ := (Option.bind_some _ _).symm.trans H; rw [hy310]; with_reducible exact H2_) | (have H2_ := (Option.bind_some _ _).symm.trans H; with_reducible exact H2_) | with_reducible exact H | (rw [hy310]; exact H) | exact H
 have Ny310 := Aside0.mk hy310
 clear hy310
 replace H := Option.bind_eq_some_iff.mp H
 obtain ⟨t313, A60, H⟩ := H
 replace H : (some t313) = some r := H
 have A6 := Aside0.mk A60
 clear A60
 obtain rfl := Option.some.inj H
 go_enter Try.func23, Try.ntmps23
 try go_wp2_with (first | ((with_reducible refine gate_dst (N := 3) rfl ?_); refine bx_ 3 #[.int .i64 a0_0, .slice A0_1 l0_1.length c0_1, .int .i64 a0_2, .int .i64 a0_3, .slice A0_4 l0_4.length c0_4, .slice A0_5 l0_5.length c0_5] 26 ?_; intro gb297 hg w7 hbox hb; have n0_ := Aside0.mk (below_step hb_ hb); have n1_ := Aside0.mk (hbox); have n2_ := Aside0.mk ((by rw [hg]; exact (below_size hb_) : w.heap.size ≤ gb297)); have n3_ := Aside0.mk ((by rw [hg]; exact (below_size hb_) : w.heap.size ≤ gb297)); clear HB; have HB := n0_; have BK297 := n1_; have GW297 := n2_; have GE297 := n3_; clear n0_ n1_ n2_ n3_; clear hb hbox hg) | ((with_reducible refine gate_dst (N := 4) rfl ?_); refine bx_ 4 #[.int .i64 a1_0, .int .i64 a1_1, .int .i64 a1_2] 44 ?_; intro gb298 hg w8 hbox hb; have n0_ := bk_ BK297 hb; have n1_ := Aside0.mk (below_step hb_ hb); have n2_ := Aside0.mk (hbox); have n3_ := Aside0.mk ((by rw [hg]; exact (below_size hb_) : w.heap.size ≤ gb298)); have n4_ := Aside0.mk ((by rw [hg]; exact (below_size hb_) : w.heap.size ≤ gb298)); have n5_ := Aside0.mk ((by rw [hg]; exact Nat.ne_of_lt (blk_lt (bj_ BK297)) : gb297 ≠ gb298)); have n6_ := Aside0.mk ((by rw [hg]; exact Nat.ne_of_gt (blk_lt (bj_ BK297)) : gb298 ≠ gb297)); clear BK297; clear HB; have BK297 := n0_; have HB := n1_; have BK298 := n2_; have GW298 := n3_; have GE298 := n4_; have NB297_298 := n5_; have NB298_297 := n6_; clear n0_ n1_ n2_ n3_ n4_ n5_ n6_; clear hb hbox hg) | ((with_reducible refine gate_dst (N := 5) rfl ?_); refine bx_ 5 #[.int .i64 a2_0, .int .i64 a2_1, .int .i64 a2_2] 44 ?_; intro gb299 hg w9 hbox hb; have n0_ := bk_ BK297 hb; have n1_ := bk_ BK298 hb; have n2_ := Aside0.mk (below_step hb_ hb); have n3_ := Aside0.mk (hbox); have n4_ := Aside0.mk ((by rw [hg]; exact (below_size hb_) : w.heap.size ≤ gb299)); have n5_ := Aside0.mk ((by rw [hg]; exact (below_size hb_) : w.heap.size ≤ gb299)); have n6_ := Aside0.mk ((by rw [hg]; exact Nat.ne_of_lt (blk_lt (bj_ BK297)) : gb297 ≠ gb299)); have n7_ := Aside0.mk ((by rw [hg]; exact Nat.ne_of_gt (blk_lt (bj_ BK297)) : gb299 ≠ gb297)); have n8_ := Aside0.mk ((by rw [hg]; exact Nat.ne_of_lt (blk_lt (bj_ BK298)) : gb298 ≠ gb299)); have n9_ := Aside0.mk ((by rw [hg]; exact Nat.ne_of_gt (blk_lt (bj_ BK298)) : gb299 ≠ gb298)); clear BK297; clear BK298; clear HB; have BK297 := n0_; have BK298 := n1_; have HB := n2_; have BK299 := n3_; have GW299 := n4_; have GE299 := n5_; have NB297_299 := n6_; have NB299_297 := n7_; have NB298_299 := n8_; have NB299_298 := n9_; clear n0_ n1_ n2_ n3_ n4_ n5_ n6_ n7_ n8_ n9_; clear hb hbox hg))
 have n0_ := Aside0.mk (blk_drew BK297.out)
 have n1_ := Aside0.mk (blk_drew BK298.out)
 have n2_ := Aside0.mk (blk_drew BK299.out)
 have n3_ := Aside0.mk (below_drew1 HB.out)
 clear BK297
 clear BK298
 clear BK299
 clear HB
 have BK297 := n0_
 have BK298 := n1_
 have BK299 := n2_
 have HB := n3_
 clear n0_ n1_ n2_ n3_
 refine start_ (n := 8) (S := fun w' => w'.cell? ⟨gb297, 0, none⟩ = some (.int .i64 a0_0) ∧ w'.cell? ⟨gb297, 1, none⟩ = some (.slice A0_1 l0_1.length c0_1) ∧ w'.cell? ⟨gb297, 2, none⟩ = some (.int .i64 a0_2) ∧ w'.cell? ⟨gb297, 3, none⟩ = some (.int .i64 a0_3) ∧ w'.cell? ⟨gb297, 4, none⟩ = some (.slice A0_4 l0_4.length c0_4) ∧ w'.cell? ⟨gb297, 5, none⟩ = some (.slice A0_5 l0_5.length c0_5) ∧ w'.cell? ⟨gb298, 0, none⟩ = some (.int .i64 a1_0) ∧ w'.cell? ⟨gb298, 1, none⟩ = some (.int .i64 a1_1) ∧ w'.cell? ⟨gb298, 2, none⟩ = some (.int .i64 a1_2) ∧ w'.cell? ⟨gb299, 0, none⟩ = some (.int .i64 a2_0) ∧ w'.cell? ⟨gb299, 1, none⟩ = some (.int .i64 a2_1) ∧ w'.cell? ⟨gb299, 2, none⟩ = some (.int .i64 a2_2)) (ds := []) #[false, false, false, false, false, false, false, false] (by kernel_rfl) rfl rfl ⟨(blk_cell BK297.out 0).trans rfl, (blk_cell BK297.out 1).trans rfl, (blk_cell BK297.out 2).trans rfl, (blk_cell BK297.out 3).trans rfl, (blk_cell BK297.out 4).trans rfl, (blk_cell BK297.out 5).trans rfl, (blk_cell BK298.out 0).trans rfl, (blk_cell BK298.out 1).trans rfl, (blk_cell BK298.out 2).trans rfl, (blk_cell BK299.out 0).trans rfl, (blk_cell BK299.out 1).trans rfl, (blk_cell BK299.out 2).trans rfl⟩ (fun hHeld => ?_); refine with_tabW conflict_Together.tab1 conflict_Together.bits1 (fun HT_ HW_ => ?_)
 generalize w9.drew = w10 at BK297 BK298 BK299 HB hHeld ⊢
 refine tk_ HT_ HW_ hHeld 0 7 (bl 8 1) ?_
 refine tk_ HT_ HW_ hHeld 1 8 (bl 8 3) ?_
 refine tk_ HT_ HW_ hHeld 3 10 (bl 8 11) ?_
 refine one_ (i := 2) (N := some 9) (bl 8 15) rfl rfl (one_of HT_.out (by kernel_rfl)) (by decide) (fun K hK => ?_)
 refine goes_ Try.func49 (by kernel_rfl) rfl #[.agg #[.int .i64 a1_0, .int .i64 a1_1, .int .i64 a1_2]] (by rfl) rfl rfl am_ ?_
 with_reducible refine (conflict_cell.calls a1_0 a1_1 a1_2 t300 t301 t302 t303 t304 _ A4.out).mono ?_
 rintro e w11 ⟨rfl, hb⟩
 refine ⟨_, rfl, ?_⟩
 have n0_ := bk_ BK297 hb
 have n1_ := bk_ BK298 hb
 have n2_ := bk_ BK299 hb
 have n3_ := Aside0.mk (below_step hb_ hb)
 clear BK297
 clear BK298
 clear BK299
 clear HB
 have BK297 := n0_
 have BK298 := n1_
 have BK299 := n2_
 have HB := n3_
 clear n0_ n1_ n2_ n3_
 (try clear hb)
 (try clear hb2)
 (try clear hk)
 (try clear hi)
 refine hK.out _ _ ⟨(blk_cell BK297.out 0).trans rfl, (blk_cell BK297.out 1).trans rfl, (blk_cell BK297.out 2).trans rfl, (blk_cell BK297.out 3).trans rfl, (blk_cell BK297.out 4).trans rfl, (blk_cell BK297.out 5).trans rfl, (blk_cell BK298.out 0).trans rfl, (blk_cell BK298.out 1).trans rfl, (blk_cell BK298.out 2).trans rfl, (blk_cell BK299.out 0).trans rfl, (blk_cell BK299.out 1).trans rfl, (blk_cell BK299.out 2).trans rfl⟩ (fun hHeld => ?_)
 clear hK K
 refine norm_ (a' := ?_) ?_ ?_
 rotate_left
 ·
  show Act.put _ (some 9) _ = _
  simp only [ap_, s0_, s1_, i64_w]
  rfl
 refine one_ (i := 4) (N := some 11) (bl 8 31) rfl rfl (one_of HT_.out (by kernel_rfl)) (by decide) (fun K hK => ?_)
 refine goes_ Try.func49 (by kernel_rfl) rfl #[.agg #[.int .i64 a2_0, .int .i64 a2_1, .int .i64 a2_2]] (by rfl) rfl rfl am_ ?_
 with_reducible refine (conflict_cell.calls a2_0 a2_1 a2_2 t305 t306 t307 t308 t309 _ A5.out).mono ?_
 rintro e w12 ⟨rfl, hb⟩
 refine ⟨_, rfl, ?_⟩
 have n0_ := bk_ BK297 hb
 have n1_ := bk_ BK298 hb
 have n2_ := bk_ BK299 hb
 have n3_ := Aside0.mk (below_step hb_ hb)
 clear BK297
 clear BK298
 clear BK299
 clear HB
 have BK297 := n0_
 have BK298 := n1_
 have BK299 := n2_
 have HB := n3_
 clear n0_ n1_ n2_ n3_
 (try clear hb)
 (try clear hb2)
 (try clear hk)
 (try clear hi)
 refine hK.out _ _ ⟨(blk_cell BK297.out 0).trans rfl, (blk_cell BK297.out 1).trans rfl, (blk_cell BK297.out 2).trans rfl, (blk_cell BK297.out 3).trans rfl, (blk_cell BK297.out 4).trans rfl, (blk_cell BK297.out 5).trans rfl, (blk_cell BK298.out 0).trans rfl, (blk_cell BK298.out 1).trans rfl, (blk_cell BK298.out 2).trans rfl, (blk_cell BK299.out 0).trans rfl, (blk_cell BK299.out 1).trans rfl, (blk_cell BK299.out 2).trans rfl⟩ (fun hHeld => ?_)
 clear hK K
 refine norm_ (a' := ?_) ?_ ?_
 rotate_left
 ·
  show Act.put _ (some 11) _ = _
  simp only [ap_, s0_, s1_, i64_w]
  rfl
 refine one_ (i := 5) (N := some 12) (bl 8 63) rfl rfl (one_of HT_.out (by kernel_rfl)) (by decide) (fun K hK => ?_)
 refine Kd.R_lit_step k36 _ 36 ?hg (N := 12) ?hd (xs := ([(⟨t300, t301, t302, t303, t304⟩ : S36), (⟨t305, t306, t307, t308, t309⟩ : S36)] : List (S36))) (inner := [.int .i64 t300, .int .i64 t301, .int .i64 t302, .int .i64 t303, .int .i64 t304, .int .i64 t305, .int .i64 t306, .int .i64 t307, .int .i64 t308, .int .i64 t309]) (ok := fun _ => True) (okp := fun _ => True) ?hr ?hp (fun _ hk => hk) trivial (Below.refl _ _) (Nat.le_refl _) (by simp) ?_; (case hd => rfl); (case hg => rfl); (case hr => first | (go_simp; done) | (go_simp; rfl)); (case hp => exact (Reps.c5 (show Kd.M k36 _ _ _ (⟨t300, t301, t302, t303, t304⟩ : S36) [.int .i64 t300, .int .i64 t301, .int .i64 t302, .int .i64 t303, .int .i64 t304] from (k36_mkM _ _ _ (⟨t300, t301, t302, t303, t304⟩ : S36) )) (Reps.c5 (show Kd.M k36 _ _ _ (⟨t305, t306, t307, t308, t309⟩ : S36) [.int .i64 t305, .int .i64 t306, .int .i64 t307, .int .i64 t308, .int .i64 t309] from (k36_mkM _ _ _ (⟨t305, t306, t307, t308, t309⟩ : S36) )) (Reps.none _ _))))
 intro v311 w13 ho14 hb hg_ hnew_
 clear hg_ hnew_
 (first | rw [← Ny310.out] at ho14 | (simp only [Int.reduceToNat] at ho14; rw [← Ny310.out] at ho14))
 have n0_ := Aside0.mk (Kd.R_lower ho14 (below_size hb_))
 have n1_ := bk_ BK297 hb
 have n2_ := bk_ BK298 hb
 have n3_ := bk_ BK299 hb
 have n4_ := Aside0.mk (below_step hb_ hb)
 clear BK297
 clear BK298
 clear BK299
 clear HB
 have HO312 := n0_
 have BK297 := n1_
 have BK298 := n2_
 have BK299 := n3_
 have HB := n4_
 clear n0_ n1_ n2_ n3_ n4_
 clear hb ho14
 obtain ⟨Ao15, co15, eo15⟩ := Kd.R_slice HO312.out
 (first | subst eo15 | (injection eo15 with f1_ f2_ f3_; have f4_ := f1_.symm; have f5_ := f3_.symm; clear f1_ f2_ f3_; subst f4_; subst f5_))
 refine hK.out _ _ ⟨(blk_cell BK297.out 0).trans rfl, (blk_cell BK297.out 1).trans rfl, (blk_cell BK297.out 2).trans rfl, (blk_cell BK297.out 3).trans rfl, (blk_cell BK297.out 4).trans rfl, (blk_cell BK297.out 5).trans rfl, (blk_cell BK298.out 0).trans rfl, (blk_cell BK298.out 1).trans rfl, (blk_cell BK298.out 2).trans rfl, (blk_cell BK299.out 0).trans rfl, (blk_cell BK299.out 1).trans rfl, (blk_cell BK299.out 2).trans rfl⟩ (fun hHeld => ?_)
 clear hK K
 refine norm_ (a' := ?_) ?_ ?_
 rotate_left
 ·
  show Act.put _ (some 12) _ = _
  simp only [ap_, s0_, s1_, i64_w]
  rfl
 refine one_ (i := 6) (N := some 13) (bl 8 127) rfl rfl (one_of HT_.out (by kernel_rfl)) (by decide) (fun K hK => ?_)
 refine goes_ Try.func17 (by kernel_rfl) rfl #[.agg #[.int .i64 a0_0, .slice A0_1 l0_1.length c0_1, .int .i64 a0_2, .int .i64 a0_3, .slice A0_4 l0_4.length c0_4, .slice A0_5 l0_5.length c0_5], .slice Ao15 y310.length co15] (by rfl) rfl rfl am_ ?_
 with_reducible refine (conflict_Good.calls k a0_0 _ _ l0_1 a0_2 a0_3 _ _ l0_4 _ _ l0_5 _ _ y310 t313 _ ?side1 ?side2 ?side3 ?side4 ?side5 ?side6 ?side7 ?side8 A6.out).mono ?_
 (case side1 | side3 | side5 => exact cb_)
 (case side2 | side4 | side6 => first | exact HC0_1.out | exact HC0_4.out | exact HC0_5.out)
 (case side7 => repeat (first | exact (Kd.R_reads' HO312.out).2.2 | (with_reducible refine Kd.C_alloc ?_ _) | (with_reducible refine Kd.C_drewN ?_ _) | (with_reducible refine Kd.C_drew ?_)))
 (case side8 => exact (Kd.R_reads' HO312.out).2.1)
 rintro e w16 ⟨rfl, hb⟩
 refine ⟨_, rfl, ?_⟩
 have n0_ := Aside0.mk (Kd.R_below (kr_ HO312) hb)
 have n1_ := bk_ BK297 hb
 have n2_ := bk_ BK298 hb
 have n3_ := bk_ BK299 hb
 have n4_ := Aside0.mk (below_step hb_ hb)
 clear HO312
 clear BK297
 clear BK298
 clear BK299
 clear HB
 have HO312 := n0_
 have BK297 := n1_
 have BK298 := n2_
 have BK299 := n3_
 have HB := n4_
 clear n0_ n1_ n2_ n3_ n4_
 (try clear hb)
 (try clear hb2)
 (try clear hk)
 (try clear hi)
 refine hK.out _ _ ⟨(blk_cell BK297.out 0).trans rfl, (blk_cell BK297.out 1).trans rfl, (blk_cell BK297.out 2).trans rfl, (blk_cell BK297.out 3).trans rfl, (blk_cell BK297.out 4).trans rfl, (blk_cell BK297.out 5).trans rfl, (blk_cell BK298.out 0).trans rfl, (blk_cell BK298.out 1).trans rfl, (blk_cell BK298.out 2).trans rfl, (blk_cell BK299.out 0).trans rfl, (blk_cell BK299.out 1).trans rfl, (blk_cell BK299.out 2).trans rfl⟩ (fun hHeld => ?_)
 clear hK K
 refine norm_ (a' := ?_) ?_ ?_
 rotate_left
 ·
  show Act.put _ (some 13) _ = _
  simp only [ap_, s0_, s1_, i64_w]
  rfl
 refine pu_ HT_ 7 6 (bl 8 255) ?_
 refine done_ (done_of HT_.out (by kernel_rfl)) ?_
 try go_wp2
 go_ret
 exact ⟨er_, hb_⟩

end Go.Proofs.Ytibgcekekmphoaa.P34
