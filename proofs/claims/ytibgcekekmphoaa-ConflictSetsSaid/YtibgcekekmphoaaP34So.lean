-- Written by a program of this session (wip/tools) over the kit's print; Lean checks it.
import Derived.Test.YtibgcekekmphoaaP340
namespace Go.Proofs.Ytibgcekekmphoaa.P34
open Go.RowKit Go.Proofs.YtibgcekekmphoaaW.PrintWords Go.Proofs.YtibgcekekmphoaaW.PrintLast Go.Proofs.YtibgcekekmphoaaW.PrintMore
attribute [local go_sem] max2_int min2_int max_two min_two max_three min_three max_four min_four   -- for this text's walks alone
set_option linter.unusedVariables false
set_option linter.unusedSimpArgs false

/-! ### hopmeshref34_Some: function 55 -/
def hopmeshref34_Some.l0 : Nat → List (S44) → Int → List (S44) → List Int → Int → Option ((List (S44)) × List Int)
 | 0, _, _, _, _, _ => none
 | k + 1, x0, x1, x6, x7, x8 => if x8 < (x0.length : Int) then (if 0 ≤ x8 then (if (Go.bits .and .i64 (shr .i64 x1 x8) 1) = 1 then (if x6.length < 5864062014805 then (if x7.length < 17592186044416 then (hopmeshref34_Some.l0 k x0 x1 (x6 ++ [(⟨(rd_T44 x0 x8).f0, (rd_T44 x0 x8).f1, (rd_T44 x0 x8).f2⟩ : S44)]) (x7 ++ [x8]) (wrap64 (x8 + 1))) else (none)) else (none)) else (hopmeshref34_Some.l0 k x0 x1 x6 x7 (wrap64 (x8 + 1)))) else (none)) else (some (x6, x7))
def hopmeshref34_Some.f (k : Nat) (l0 : List (S44)) (a1 : Int) : Option ((List (S44)) × List Int) := hopmeshref34_Some.l0 k l0 a1 (([] : List (S44))) (([] : List Int)) 0
theorem hopmeshref34_Some.mono_l : ∀ k, (∀ y0 y1 y2 y3 y4, LeO (hopmeshref34_Some.l0 k y0 y1 y2 y3 y4) (hopmeshref34_Some.l0 (k + 1) y0 y1 y2 y3 y4))
 | 0 => fun _ _ _ _ _ r h => by simp [hopmeshref34_Some.l0] at h
 | k + 1 => by
  have ih0 := hopmeshref34_Some.mono_l k
  ·
   intro y0 y1 y2 y3 y4
   unfold hopmeshref34_Some.l0
   repeat' first
   | (with_reducible exact ih0 _ _ _ _ _)
   | (with_reducible exact LeO.refl _)
   | (with_reducible exact LeO.none _)
   | (with_reducible refine LeO.ite ?_ ?_)
   | (with_reducible refine LeO.bind ?_ (fun _ => ?_))
   | exact ih0 _ _ _ _ _
   | exact LeO.none _
   | refine LeO.ite ?_ ?_
   | refine LeO.bind ?_ (fun _ => ?_)
theorem hopmeshref34_Some.mono : ∀ a0 a1 k, LeO (hopmeshref34_Some.f k a0 a1) (hopmeshref34_Some.f (k + 1) a0 a1) := by
 intro a0 a1 k
 have ih0 := hopmeshref34_Some.mono_l k
 unfold hopmeshref34_Some.f
 repeat' first
   | (with_reducible exact ih0 _ _ _ _ _)
   | (with_reducible exact LeO.refl _)
   | (with_reducible exact LeO.none _)
   | (with_reducible refine LeO.ite ?_ ?_)
   | (with_reducible refine LeO.bind ?_ (fun _ => ?_))
   | exact ih0 _ _ _ _ _
   | exact LeO.none _
   | refine LeO.ite ?_ ?_
   | refine LeO.bind ?_ (fun _ => ?_)
set_option maxHeartbeats 8000000 in
set_option maxRecDepth 100000 in
theorem hopmeshref34_Some.calls (k : Nat) (A0 : Option Addr) (c0 : Nat) (l0 : List (S44)) (a1 : Int) (r1 : List (S44)) (r2 : List Int) (w : World) (hr0 : Kd.C k44 w A0 l0.length l0) (hc0 : l0.length ≤ c0) (h : hopmeshref34_Some.f k l0 a1 = some (r1, r2)) :
  Calls Try.prog 55 #[.slice A0 l0.length c0, .int .i64 a1] w fun e w' => ∃ v0_ v1_ : Value, e = .returned (.tuple #[v0_, v1_]) ∧ Kd.R k44 44 w' w.heap.size (fun _ => True) v0_ r1 ∧ Kd.R (Kd.int .i64) 3 w' w.heap.size (fun _ => True) v1_ r2 ∧ Below w.heap.size w w' := by
 have hu44 := Try.underlying44
 have HR0 := Aside0.mk hr0
 have HC0 := Aside0.mk hc0
 clear hr0 hc0
 have HB := Aside0.mk (Below.refl w.heap.size w)
 have H : (hopmeshref34_Some.l0 k l0 a1 (([] : List (S44))) (([] : List Int)) 0) = some (r1, r2) := h
 clear h
 obtain ⟨y435, hy435⟩ : ∃ y_ : List (S44), y_ = (([] : List (S44))) := ⟨_, rfl⟩
 replace H : (hopmeshref34_Some.l0 k l0 a1 y435 (([] : List Int)) 0) = some (r1, r2) := by first | (rw [hy435]; with_reducible exact H) | (have H2_ := (Option.bind_some _ _).symm.trans H; rw [hy435]; with_reducible exact H2_) | (have H2_ := (Option.bind_some _ _).symm.trans H; with_reducible exact H2_) | with_reducible exact H | (rw [hy435]; exact H) | exact H
 have Ny435 := Aside0.mk hy435
 clear hy435
 obtain ⟨y438, hy438⟩ : ∃ y_ : List Int, y_ = (([] : List Int)) := ⟨_, rfl⟩
 replace H : (hopmeshref34_Some.l0 k l0 a1 y435 y438 0) = some (r1, r2) := by first | (rw [hy438]; with_reducible exact H) | (have H2_ := (Option.bind_some _ _).symm.trans H; rw [hy438]; with_reducible exact H2_) | (have H2_ := (Option.bind_some _ _).symm.trans H; with_reducible exact H2_) | with_reducible exact H | (rw [hy438]; exact H) | exact H
 have Ny438 := Aside0.mk hy438
 clear hy438
 have H' := Aside0.mk H
 clear H
 go_enter Try.func55, Try.ntmps55
 go_wp2_with (first | ((with_reducible refine gate_dst (N := 9) rfl ?_); refine Kd.R_lit k44 _ 44 ?hg (N := 9) ?hd (xs := ([] : List (S44))) (inner := []) (ok := fun _ => True) (okp := fun _ => True) ?hr ?hp (fun _ hk => hk) trivial (Below.refl _ _) (Nat.le_refl _) (by simp) ?_; (case hd => rfl); (case hg => rfl); (case hr => first | (go_simp; done) | (go_simp; rfl)); (case hp => exact (Reps.none _ _)); intro v436 w3 ho4 hb hg_ hnew_; clear hg_ hnew_; (first | rw [← Ny435.out] at ho4 | (simp only [Int.reduceToNat] at ho4; rw [← Ny435.out] at ho4)); have n0_ := Aside0.mk (Kd.R_lower ho4 (below_size hb_)); have n1_ := Aside0.mk (below_step hb_ hb); clear HB; have HO437 := n0_; have HB := n1_; clear n0_ n1_; clear hb ho4) | ((with_reducible refine gate_dst (N := 10) rfl ?_); refine Kd.R_lit (Kd.int .i64) _ 3 ?hg (N := 10) ?hd (xs := ([] : List Int)) (inner := []) (ok := fun _ => True) (okp := fun _ => True) ?hr ?hp (fun _ hk => hk) trivial (Below.refl _ _) (Nat.le_refl _) (by simp) ?_; (case hd => rfl); (case hg => rfl); (case hr => first | (go_simp; done) | (go_simp; rfl)); (case hp => exact (Reps.none _ _)); intro v439 w5 ho6 hb hg_ hnew_; clear hg_ hnew_; (first | rw [← Ny438.out] at ho6 | (simp only [Int.reduceToNat] at ho6; rw [← Ny438.out] at ho6)); have n0_ := Aside0.mk (Kd.R_below (kr_ HO437) hb); have n1_ := Aside0.mk (Kd.R_lower ho6 (below_size hb_)); have n2_ := Aside0.mk (below_step hb_ hb); clear HO437; clear HB; have HO437 := n0_; have HO440 := n1_; have HB := n2_; clear n0_ n1_ n2_; clear hb ho6))
 go_loopg [6, 7, 8] k (fun kq v6 v7 v8 w' => ∃ (x6_1 : List (S44)) (x7_1 : List Int) (x8_1 : Int), v8 = .int .i64 x8_1 ∧ Aside0 (hopmeshref34_Some.l0 kq l0 a1 x6_1 x7_1 x8_1 = some (r1, r2)) ∧ Aside0 (kq ≤ k) ∧ Aside0 (Kd.R k44 44 w' w.heap.size (fun _ => True) v6 x6_1) ∧ Aside0 (Kd.R (Kd.int .i64) 3 w' w.heap.size (fun _ => True) v7 x7_1) ∧ Aside0 (Below w.heap.size w w'))
 case atStart => exact ⟨(y435), (y438), (0), rl_, H', ⟨Nat.le_refl _⟩, ⟨kr_ HO437⟩, ⟨kr_ HO440⟩, ⟨hb_⟩⟩
 case round =>
  clear H'
  try clear p2; try clear c5
  (repeat clear HO_6); (repeat clear HO_7); (repeat clear HB)
  obtain ⟨x6_1, x7_1, x8_1, rfl, HA, HK1, HO_6, HO_7, HB⟩ := hrel
  cases gk with
  | zero => exact absurd HA.out (by simp [hopmeshref34_Some.l0])
  | succ k1 =>
   have H := HA.out
   clear HA
   simp only [hopmeshref34_Some.l0] at H
   by_cases c7 : x8_1 < (l0.length : Int)
   ·
    rw [if_pos c7] at H
    have c7b0 : decide (x8_1 < (l0.length : Int)) = true := decide_eq_true c7
    clear c7
    by_cases c8 : 0 ≤ x8_1
    ·
     rw [if_pos c8] at H
     have c8b0 := eq_true c8
     have c8b1 : decide (0 ≤ x8_1) = true := decide_eq_true c8
     clear c8
     obtain ⟨ji9, hji9⟩ : ∃ j_ : Int, (shr .i64 a1 x8_1) = j_ := ⟨_, rfl⟩
     replace H : (if (Go.bits .and .i64 (ji9) 1) = 1 then (if x6_1.length < 5864062014805 then (if x7_1.length < 17592186044416 then (hopmeshref34_Some.l0 k1 l0 a1 (x6_1 ++ [(⟨(rd_T44 l0 x8_1).f0, (rd_T44 l0 x8_1).f1, (rd_T44 l0 x8_1).f2⟩ : S44)]) (x7_1 ++ [x8_1]) (wrap64 (x8_1 + 1))) else (none)) else (none)) else (hopmeshref34_Some.l0 k1 l0 a1 x6_1 x7_1 (wrap64 (x8_1 + 1)))) = some (r1, r2) := by first | (rw [hji9] at H; exact H) | (simp only [hji9] at H ⊢; exact H)
     have hji9_ : (a1 / 2 ^ min x8_1.toNat 64) = ji9 := hji9
     have hji9z : x8_1 ≤ 64 → (a1 / 2 ^ x8_1.toNat) = ji9 := shr_small hji9
     by_cases c10 : (Go.bits .and .i64 (ji9) 1) = 1
     ·
      rw [if_pos c10] at H
      have c10b0 : ((Go.bits .and .i64 (ji9) 1) == 1) = true := beq_iff_eq.mpr c10
      have c10b1 : ((Go.bits .and .i64 (ji9) 1) != 1) = false := bne_eq_false_iff_eq.mpr c10
      clear c10
      by_cases c11 : x6_1.length < 5864062014805
      ·
       rw [if_pos c11] at H
       have LMc11 := Aside0.mk c11
       clear c11
       obtain ⟨y442, hy442⟩ : ∃ y_ : List (S44), y_ = (x6_1 ++ [(⟨(rd_T44 l0 x8_1).f0, (rd_T44 l0 x8_1).f1, (rd_T44 l0 x8_1).f2⟩ : S44)]) := ⟨_, rfl⟩
       replace H : (if x7_1.length < 17592186044416 then (hopmeshref34_Some.l0 k1 l0 a1 y442 (x7_1 ++ [x8_1]) (wrap64 (x8_1 + 1))) else (none)) = some (r1, r2) := by first | (rw [hy442]; with_reducible exact H) | (have H2_ := (Option.bind_some _ _).symm.trans H; rw [hy442]; with_reducible exact H2_) | (have H2_ := (Option.bind_some _ _).symm.trans H; with_reducible exact H2_) | with_reducible exact H | (rw [hy442]; exact H) | exact H
       have Ny442 := Aside0.mk hy442
       clear hy442
       by_cases c12 : x7_1.length < 17592186044416
       ·
        rw [if_pos c12] at H
        have LMc12 := Aside0.mk c12
        clear c12
        obtain ⟨y445, hy445⟩ : ∃ y_ : List Int, y_ = (x7_1 ++ [x8_1]) := ⟨_, rfl⟩
        replace H : (hopmeshref34_Some.l0 k1 l0 a1 y442 y445 (wrap64 (x8_1 + 1))) = some (r1, r2) := by first | (rw [hy445]; with_reducible exact H) | (have H2_ := (Option.bind_some _ _).symm.trans H; rw [hy445]; with_reducible exact H2_) | (have H2_ := (Option.bind_some _ _).symm.trans H; with_reducible exact H2_) | with_reducible exact H | (rw [hy445]; exact H) | exact H
        have Ny445 := Aside0.mk hy445
        clear hy445
        have H' := Aside0.mk H
        clear H
        have p441 : 0 ≤ (x8_1 : Int) := of_decide_eq_true (by assumption)
        have q441 : x8_1 < (l0.length : Int) := of_decide_eq_true (by assumption)
        obtain ⟨ad441, e441, hx441_0, hx441_1, hx441_2⟩ := at_T44 HR0.out x8_1 p441 q441
        cases e441
        replace hx441_0 := (HB.out.cell (World.block_lt_of_cell? w _ hx441_0)).trans hx441_0
        replace hx441_1 := (HB.out.cell (World.block_lt_of_cell? w _ hx441_1)).trans hx441_1
        replace hx441_2 := (HB.out.cell (World.block_lt_of_cell? w _ hx441_2)).trans hx441_2
        replace p441 := eq_true p441
        replace q441 := eq_true q441
        go_wp2_with (first | ((with_reducible refine gate_builtin (b := .append) (xs := #[.tmp 22, .tmp 27]) rfl ?_); at_builtin; refine Kd.R_append k44 (w0 := w) w.heap.size rfl (.tmp 22) (.tmp 27) 23 44 (.agg #[(.int .i64 0), (.int .i64 0), (.int .i64 0)]) 24 rfl Try.underlying23 info44 rfl (by decide) (by omega) u6 x6_1 (⟨(rd_T44 l0 x8_1).f0, (rd_T44 l0 x8_1).f1, (rd_T44 l0 x8_1).f2⟩ : S44) [.int .i64 ((rd_T44 l0 x8_1).f0), .int .i64 ((rd_T44 l0 x8_1).f1), .int .i64 ((rd_T44 l0 x8_1).f2)] (fun _ => True) (fun _ => False) rfl rfl ?aP (fun _ hk => hk.elim) ?aF ?aO ?aB ?aS ?aL ?_; (case aP => exact k44_mkM _ _ _ (⟨(rd_T44 l0 x8_1).f0, (rd_T44 l0 x8_1).f1, (rd_T44 l0 x8_1).f2⟩ : S44)); (case aB => exact hb_); (case aF => exact (fun _ _ => trivial)); (case aO => exact (kr_ HO_6)); (case aS => exact (below_size hb_)); (case aL => have := LMc11.out; omega); intro v443 w13 ho hb hg hat; rw [← Ny442.out] at ho; have n0_ := Aside0.mk (Kd.R_over' (kr_ HO_7) (Kd.R_typed (kr_ HO_6)) (by decide) hg); have n1_ := Aside0.mk (hb); have n2_ := Aside0.mk (ho); clear HO_7; clear HB; clear HO_6; have HO_7 := n0_; have HB := n1_; have HO444 := n2_; clear n0_ n1_ n2_; clear ho hb hg hat) | ((with_reducible refine gate_builtin (b := .append) (xs := #[.tmp 29, .tmp 31]) rfl ?_); at_builtin; refine Kd.R_append (Kd.int .i64) (w0 := w) w.heap.size rfl (.tmp 29) (.tmp 31) 24 3 (.int .i64 0) 8 rfl Try.underlying24 info3 rfl (by decide) (by omega) u7 x7_1 x8_1 [.int .i64 x8_1] (fun _ => True) (fun _ => False) rfl rfl ?aP (fun _ hk => hk.elim) ?aF ?aO ?aB ?aS ?aL ?_; (case aP => exact rfl); (case aB => exact hb_); (case aF => exact (fun _ _ => trivial)); (case aO => exact (kr_ HO_7)); (case aS => exact (below_size hb_)); (case aL => have := LMc12.out; omega); intro v446 w14 ho hb hg hat; rw [← Ny445.out] at ho; have n0_ := Aside0.mk (Kd.R_over' (kr_ HO444) (Kd.R_typed (kr_ HO_7)) (by decide) hg); have n1_ := Aside0.mk (hb); have n2_ := Aside0.mk (ho); clear HO444; clear HB; clear HO_7; have HO444 := n0_; have HB := n1_; have HO447 := n2_; clear n0_ n1_ n2_; clear ho hb hg hat))
        go_roundg k1
        case measure => have := HK1.out; omega
        case rel => exact ⟨(y442), (y445), (wrap64 (x8_1 + 1)), rl_, H', ⟨by have := HK1.out; omega⟩, ⟨kr_ HO444⟩, ⟨kr_ HO447⟩, ⟨hb_⟩⟩
       ·
        rw [if_neg c12] at H
        exact absurd H (by simp)
      ·
       rw [if_neg c11] at H
       exact absurd H (by simp)
     ·
      rw [if_neg c10] at H
      have c10b0 : ((Go.bits .and .i64 (ji9) 1) == 1) = false := beq_eq_false_iff_ne.mpr c10
      have c10b1 : ((Go.bits .and .i64 (ji9) 1) != 1) = true := bne_iff_ne.mpr c10
      have H' := Aside0.mk H
      clear H
      go_wp2
      go_roundg k1
      case measure => have := HK1.out; omega
      case rel => exact ⟨(x6_1), (x7_1), (wrap64 (x8_1 + 1)), rl_, H', ⟨by have := HK1.out; omega⟩, ⟨kr_ HO_6⟩, ⟨kr_ HO_7⟩, ⟨hb_⟩⟩
    ·
     rw [if_neg c8] at H
     exact absurd H (by simp)
   ·
    rw [if_neg c7] at H
    have c7b0 : decide (x8_1 < (l0.length : Int)) = false := decide_eq_false c7
    clear c7
    simp only [Option.some.injEq, Prod.mk.injEq] at H
    obtain ⟨rfl, rfl⟩ := H
    go_wp2
    go_ret2
    exact ⟨_, _, by first | rfl | (simp [errW_none, errW_some] <;> rfl) | (simp [*, errW_none, errW_some] <;> rfl), kr_ HO_6, kr_ HO_7, hb_⟩

end Go.Proofs.Ytibgcekekmphoaa.P34
