-- Written by a program of this session (wip/tools) over the kit's print; Lean checks it.
import Derived.Test.YtibgcekekmphoaaP340
import Derived.Test.YtibgcekekmphoaaP34C
import Derived.Test.YtibgcekekmphoaaP34F
namespace Go.Proofs.Ytibgcekekmphoaa.P34
open Go.RowKit Go.Proofs.YtibgcekekmphoaaW.PrintWords Go.Proofs.YtibgcekekmphoaaW.PrintLast Go.Proofs.YtibgcekekmphoaaW.PrintMore
attribute [local go_sem] max2_int min2_int max_two min_two max_three min_three max_four min_four   -- for this text's walks alone
set_option linter.unusedVariables false
set_option linter.unusedSimpArgs false

/-! ### hopmeshref34_First: function 21 -/
def hopmeshref34_First.l0 : Nat → List (S36) → Int → Int → List (List Int) → Int → Int → List (S44) → List Int → Option (Int × Bool)
 | 0, _, _, _, _, _, _, _, _ => none
 | k + 1, x1, x6, x289000, x289001, x289002, x289003, x289004, x289005 => if x6 < (x1.length : Int) then ((hopmeshref34_Fault.f k x289000 x289001 x289002 x289003 x289004 x289005 x1 x6).bind fun t290 => (if t290 = true then (some (x6, true)) else (hopmeshref34_First.l0 k x1 (wrap64 (x6 + 1)) x289000 x289001 x289002 x289003 x289004 x289005))) else (some ((-1), false))
def hopmeshref34_First.f (k : Nat) (a0_0 : Int) (l0_1 : List (List Int)) (a0_2 : Int) (a0_3 : Int) (l0_4 : List (S44)) (l0_5 : List Int) (l1 : List (S36)) : Option (Int × Bool) := (hopmeshref31_Check.f k a0_0 l0_1 a0_2 a0_3 l0_4 l0_5).bind fun t289 => (if t289 = 0 then (hopmeshref34_First.l0 k l1 0 a0_0 l0_1 a0_2 a0_3 l0_4 l0_5) else (some ((-1), false)))
theorem hopmeshref34_First.mono_l : ∀ k, (∀ y0 y1 y2 y3 y4 y5 y6 y7, LeO (hopmeshref34_First.l0 k y0 y1 y2 y3 y4 y5 y6 y7) (hopmeshref34_First.l0 (k + 1) y0 y1 y2 y3 y4 y5 y6 y7))
 | 0 => fun _ _ _ _ _ _ _ _ r h => by simp [hopmeshref34_First.l0] at h
 | k + 1 => by
  have ih0 := hopmeshref34_First.mono_l k
  ·
   intro y0 y1 y2 y3 y4 y5 y6 y7
   unfold hopmeshref34_First.l0
   repeat' first
   | (with_reducible exact ih0 _ _ _ _ _ _ _ _)
   | (with_reducible exact hopmeshref31_Check.mono _ _ _ _ _ _ _)
   | (with_reducible exact hopmeshref34_Fault.mono _ _ _ _ _ _ _ _ _)
   | (with_reducible exact LeO.refl _)
   | (with_reducible exact LeO.none _)
   | (with_reducible refine LeO.ite ?_ ?_)
   | (with_reducible refine LeO.bind ?_ (fun _ => ?_))
   | exact ih0 _ _ _ _ _ _ _ _
   | exact hopmeshref31_Check.mono _ _ _ _ _ _ _
   | exact hopmeshref34_Fault.mono _ _ _ _ _ _ _ _ _
   | exact LeO.none _
   | refine LeO.ite ?_ ?_
   | refine LeO.bind ?_ (fun _ => ?_)
theorem hopmeshref34_First.mono : ∀ a0 a1 a2 a3 a4 a5 a6 k, LeO (hopmeshref34_First.f k a0 a1 a2 a3 a4 a5 a6) (hopmeshref34_First.f (k + 1) a0 a1 a2 a3 a4 a5 a6) := by
 intro a0 a1 a2 a3 a4 a5 a6 k
 have ih0 := hopmeshref34_First.mono_l k
 unfold hopmeshref34_First.f
 repeat' first
   | (with_reducible exact ih0 _ _ _ _ _ _ _ _)
   | (with_reducible exact hopmeshref31_Check.mono _ _ _ _ _ _ _)
   | (with_reducible exact hopmeshref34_Fault.mono _ _ _ _ _ _ _ _ _)
   | (with_reducible exact LeO.refl _)
   | (with_reducible exact LeO.none _)
   | (with_reducible refine LeO.ite ?_ ?_)
   | (with_reducible refine LeO.bind ?_ (fun _ => ?_))
   | exact ih0 _ _ _ _ _ _ _ _
   | exact hopmeshref31_Check.mono _ _ _ _ _ _ _
   | exact hopmeshref34_Fault.mono _ _ _ _ _ _ _ _ _
   | exact LeO.none _
   | refine LeO.ite ?_ ?_
   | refine LeO.bind ?_ (fun _ => ?_)
set_option maxHeartbeats 8000000 in
set_option maxRecDepth 100000 in
theorem hopmeshref34_First.calls (k : Nat) (a0_0 : Int) (A0_1 : Option Addr) (c0_1 : Nat) (l0_1 : List (List Int)) (a0_2 : Int) (a0_3 : Int) (A0_4 : Option Addr) (c0_4 : Nat) (l0_4 : List (S44)) (A0_5 : Option Addr) (c0_5 : Nat) (l0_5 : List Int) (A1 : Option Addr) (c1 : Nat) (l1 : List (S36)) (r1 : Int) (r2 : Bool) (w : World) (hr0_1 : Kd.C (Kd.slice 3 (Kd.int .i64)) w A0_1 l0_1.length l0_1) (hc0_1 : l0_1.length ≤ c0_1) (hr0_4 : Kd.C k44 w A0_4 l0_4.length l0_4) (hc0_4 : l0_4.length ≤ c0_4) (hr0_5 : Kd.C (Kd.int .i64) w A0_5 l0_5.length l0_5) (hc0_5 : l0_5.length ≤ c0_5) (hr1 : Kd.C k36 w A1 l1.length l1) (hc1 : l1.length ≤ c1) (h : hopmeshref34_First.f k a0_0 l0_1 a0_2 a0_3 l0_4 l0_5 l1 = some (r1, r2)) :
  Calls Try.prog 21 #[.agg #[.int .i64 a0_0, .slice A0_1 l0_1.length c0_1, .int .i64 a0_2, .int .i64 a0_3, .slice A0_4 l0_4.length c0_4, .slice A0_5 l0_5.length c0_5], .slice A1 l1.length c1] w fun e w' => e = .returned (.tuple #[.int .i64 r1, .bool r2]) ∧ Below w.heap.size w w' := by
 have hu26 := Try.underlying26
 have HR0_1 := Aside0.mk hr0_1
 have HC0_1 := Aside0.mk hc0_1
 clear hr0_1 hc0_1
 have HR0_4 := Aside0.mk hr0_4
 have HC0_4 := Aside0.mk hc0_4
 clear hr0_4 hc0_4
 have HR0_5 := Aside0.mk hr0_5
 have HC0_5 := Aside0.mk hc0_5
 clear hr0_5 hc0_5
 have HR1 := Aside0.mk hr1
 have HC1 := Aside0.mk hc1
 clear hr1 hc1
 have HB := Aside0.mk (Below.refl w.heap.size w)
 have H : ((hopmeshref31_Check.f k a0_0 l0_1 a0_2 a0_3 l0_4 l0_5).bind fun t289 => (if t289 = 0 then (hopmeshref34_First.l0 k l1 0 a0_0 l0_1 a0_2 a0_3 l0_4 l0_5) else (some ((-1), false)))) = some (r1, r2) := h
 clear h
 replace H := Option.bind_eq_some_iff.mp H
 obtain ⟨t289, A30, H⟩ := H
 replace H : (if t289 = 0 then (hopmeshref34_First.l0 k l1 0 a0_0 l0_1 a0_2 a0_3 l0_4 l0_5) else (some ((-1), false))) = some (r1, r2) := H
 have A3 := Aside0.mk A30
 clear A30
 by_cases c4 : t289 = 0
 ·
  rw [if_pos c4] at H
  have c4b0 : (t289 == 0) = true := beq_iff_eq.mpr c4
  have c4b1 : (t289 != 0) = false := bne_eq_false_iff_eq.mpr c4
  clear c4
  have H' := Aside0.mk H
  clear H
  go_enter Try.func21, Try.ntmps21
  go_wp2_with (first | ((with_reducible refine gate_dst (N := 2) rfl ?_); refine bx_ 2 #[.int .i64 a0_0, .slice A0_1 l0_1.length c0_1, .int .i64 a0_2, .int .i64 a0_3, .slice A0_4 l0_4.length c0_4, .slice A0_5 l0_5.length c0_5] 26 ?_; intro gb288 hg w5 hbox hb; have n0_ := Aside0.mk (below_step hb_ hb); have n1_ := Aside0.mk (hbox); have n2_ := Aside0.mk ((by rw [hg]; exact (below_size hb_) : w.heap.size ≤ gb288)); have n3_ := Aside0.mk ((by rw [hg]; exact (below_size hb_) : w.heap.size ≤ gb288)); clear HB; have HB := n0_; have BK288 := n1_; have GW288 := n2_; have GE288 := n3_; clear n0_ n1_ n2_ n3_; clear hb hbox hg; have hcz6_0 := bc0 BK288; have hcz6_1 := bc1 BK288; have hcz6_2 := bc2 BK288; have hcz6_3 := bc3 BK288; have hcz6_4 := bc4 BK288; have hcz6_5 := bc5 BK288; have hfz6_0 := blk_frozen BK288.out 0; have hfz6_1 := blk_frozen BK288.out 1; have hfz6_2 := blk_frozen BK288.out 2; have hfz6_3 := blk_frozen BK288.out 3; have hfz6_4 := blk_frozen BK288.out 4; have hfz6_5 := blk_frozen BK288.out 5) | ((with_reducible refine gate_callee (f := 40) rfl ?_); refine goesL_ (some 8) rfl rfl Try.func40 (by kernel_rfl) rfl #[.agg #[.int .i64 a0_0, .slice A0_1 l0_1.length c0_1, .int .i64 a0_2, .int .i64 a0_3, .slice A0_4 l0_4.length c0_4, .slice A0_5 l0_5.length c0_5]] rfl am_ ?_; (with_reducible refine (hopmeshref31_Check.calls k a0_0 _ _ l0_1 a0_2 a0_3 _ _ l0_4 _ _ l0_5 t289 _ ?side1 ?side2 ?side3 ?side4 ?side5 ?side6 A3.out).mono ?_); (case side1 | side3 | side5 => exact cb_); (case side2 | side4 | side6 => first | exact HC0_1.out | exact HC0_4.out | exact HC0_5.out); rintro e w7 ⟨rfl, hb⟩; refine ⟨_, rfl, ?_⟩; have n0_ := bk_ BK288 hb; have n1_ := Aside0.mk (below_step hb_ hb); clear BK288; clear HB; have BK288 := n0_; have HB := n1_; clear n0_ n1_; (try clear hb); (try clear hb2); (try clear hk); (try clear hi)))
  go_loopg [6] k (fun kq v6 w' => ∃ (x6_1 : Int), v6 = .int .i64 x6_1 ∧ Aside0 (hopmeshref34_First.l0 kq l1 x6_1 a0_0 l0_1 a0_2 a0_3 l0_4 l0_5 = some (r1, r2)) ∧ Aside0 (kq ≤ k) ∧ Aside0 (w'.heap[gb288]? = some (.cells #[.int .i64 a0_0, (.slice A0_1 l0_1.length c0_1), .int .i64 a0_2, .int .i64 a0_3, (.slice A0_4 l0_4.length c0_4), (.slice A0_5 l0_5.length c0_5)] 26 (0, 0))) ∧ Aside0 (Below w.heap.size w w'))
  case atStart => exact ⟨(0), rl_, H', ⟨Nat.le_refl _⟩, ⟨bj_ BK288⟩, ⟨hb_⟩⟩
  case round =>
   clear H'
   try clear c1; try clear c2; try clear p2; try clear c4; try clear c4b0; try clear c4b1; try clear hcz6_0; try clear hcz6_1; try clear hcz6_2; try clear hcz6_3; try clear hcz6_4; try clear hcz6_5; try clear hfz6_0; try clear hfz6_1; try clear hfz6_2; try clear hfz6_3; try clear hfz6_4; try clear hfz6_5
   (repeat clear BK288); (repeat clear HB)
   obtain ⟨x6_1, rfl, HA, HK1, BK288, HB⟩ := hrel
   cases gk with
   | zero => exact absurd HA.out (by simp [hopmeshref34_First.l0])
   | succ k1 =>
    have H := HA.out
    clear HA
    simp only [hopmeshref34_First.l0] at H
    by_cases c8 : x6_1 < (l1.length : Int)
    ·
     rw [if_pos c8] at H
     have c8b0 : decide (x6_1 < (l1.length : Int)) = true := decide_eq_true c8
     clear c8
     replace H := Option.bind_eq_some_iff.mp H
     obtain ⟨t290, A90, H⟩ := H
     replace H : (if t290 = true then (some (x6_1, true)) else (hopmeshref34_First.l0 k1 l1 (wrap64 (x6_1 + 1)) a0_0 l0_1 a0_2 a0_3 l0_4 l0_5)) = some (r1, r2) := H
     have A9 := Aside0.mk A90
     clear A90
     by_cases c10 : t290 = true
     ·
      subst c10
      have H1 : (some (x6_1, true)) = some (r1, r2) := by rw [if_pos rfl] at H; exact H
      clear H
      have H := H1
      clear H1
      simp only [Option.some.injEq, Prod.mk.injEq] at H
      obtain ⟨rfl, rfl⟩ := H
      have hcz11_0 := bc0 BK288
      have hcz11_1 := bc1 BK288
      have hcz11_2 := bc2 BK288
      have hcz11_3 := bc3 BK288
      have hcz11_4 := bc4 BK288
      have hcz11_5 := bc5 BK288
      have hfz11_0 := blk_frozen BK288.out 0
      have hfz11_1 := blk_frozen BK288.out 1
      have hfz11_2 := blk_frozen BK288.out 2
      have hfz11_3 := blk_frozen BK288.out 3
      have hfz11_4 := blk_frozen BK288.out 4
      have hfz11_5 := blk_frozen BK288.out 5
      go_wp2_with (first | ((with_reducible refine gate_callee (f := 48) rfl ?_); refine goesL_ (some 19) rfl rfl Try.func48 (by kernel_rfl) rfl #[.agg #[.int .i64 a0_0, .slice A0_1 l0_1.length c0_1, .int .i64 a0_2, .int .i64 a0_3, .slice A0_4 l0_4.length c0_4, .slice A0_5 l0_5.length c0_5], .slice A1 l1.length c1, .int .i64 x6_1] rfl am_ ?_; (with_reducible refine (hopmeshref34_Fault.calls k1 a0_0 _ _ l0_1 a0_2 a0_3 _ _ l0_4 _ _ l0_5 _ _ l1 x6_1 true _ ?side1 ?side2 ?side3 ?side4 ?side5 ?side6 ?side7 ?side8 A9.out).mono ?_); (case side1 | side3 | side5 | side7 => exact cb_); (case side2 | side4 | side6 | side8 => first | exact HC0_1.out | exact HC0_4.out | exact HC0_5.out | exact HC1.out); rintro e w12 ⟨rfl, hb⟩; refine ⟨_, rfl, ?_⟩; have n0_ := bk_ BK288 hb; have n1_ := Aside0.mk (below_step hb_ hb); clear BK288; clear HB; have BK288 := n0_; have HB := n1_; clear n0_ n1_; (try clear hb); (try clear hb2); (try clear hk); (try clear hi)))
      go_ret2
      exact ⟨er_, hb_⟩
     ·
      replace c10 := Bool.eq_false_iff.mpr c10
      subst c10
      have H1 : (hopmeshref34_First.l0 k1 l1 (wrap64 (x6_1 + 1)) a0_0 l0_1 a0_2 a0_3 l0_4 l0_5) = some (r1, r2) := by rw [if_neg (show ¬ (false = true) by decide)] at H; exact H
      clear H
      have H := H1
      clear H1
      have H' := Aside0.mk H
      clear H
      have hcz13_0 := bc0 BK288
      have hcz13_1 := bc1 BK288
      have hcz13_2 := bc2 BK288
      have hcz13_3 := bc3 BK288
      have hcz13_4 := bc4 BK288
      have hcz13_5 := bc5 BK288
      have hfz13_0 := blk_frozen BK288.out 0
      have hfz13_1 := blk_frozen BK288.out 1
      have hfz13_2 := blk_frozen BK288.out 2
      have hfz13_3 := blk_frozen BK288.out 3
      have hfz13_4 := blk_frozen BK288.out 4
      have hfz13_5 := blk_frozen BK288.out 5
      go_wp2_with (first | ((with_reducible refine gate_callee (f := 48) rfl ?_); refine goesL_ (some 19) rfl rfl Try.func48 (by kernel_rfl) rfl #[.agg #[.int .i64 a0_0, .slice A0_1 l0_1.length c0_1, .int .i64 a0_2, .int .i64 a0_3, .slice A0_4 l0_4.length c0_4, .slice A0_5 l0_5.length c0_5], .slice A1 l1.length c1, .int .i64 x6_1] rfl am_ ?_; (with_reducible refine (hopmeshref34_Fault.calls k1 a0_0 _ _ l0_1 a0_2 a0_3 _ _ l0_4 _ _ l0_5 _ _ l1 x6_1 false _ ?side1 ?side2 ?side3 ?side4 ?side5 ?side6 ?side7 ?side8 A9.out).mono ?_); (case side1 | side3 | side5 | side7 => exact cb_); (case side2 | side4 | side6 | side8 => first | exact HC0_1.out | exact HC0_4.out | exact HC0_5.out | exact HC1.out); rintro e w14 ⟨rfl, hb⟩; refine ⟨_, rfl, ?_⟩; have n0_ := bk_ BK288 hb; have n1_ := Aside0.mk (below_step hb_ hb); clear BK288; clear HB; have BK288 := n0_; have HB := n1_; clear n0_ n1_; (try clear hb); (try clear hb2); (try clear hk); (try clear hi)))
      go_roundg k1
      case measure => have := HK1.out; omega
      case rel => exact ⟨(wrap64 (x6_1 + 1)), rl_, H', ⟨by have := HK1.out; omega⟩, ⟨bj_ BK288⟩, ⟨hb_⟩⟩
    ·
     rw [if_neg c8] at H
     have c8b0 : decide (x6_1 < (l1.length : Int)) = false := decide_eq_false c8
     clear c8
     simp only [Option.some.injEq, Prod.mk.injEq] at H
     obtain ⟨rfl, rfl⟩ := H
     go_wp2
     go_ret2
     exact ⟨er_, hb_⟩
 ·
  rw [if_neg c4] at H
  have c4b0 : (t289 == 0) = false := beq_eq_false_iff_ne.mpr c4
  have c4b1 : (t289 != 0) = true := bne_iff_ne.mpr c4
  simp only [Option.some.injEq, Prod.mk.injEq] at H
  obtain ⟨rfl, rfl⟩ := H
  go_enter Try.func21, Try.ntmps21
  go_wp2_with (first | ((with_reducible refine gate_dst (N := 2) rfl ?_); refine bx_ 2 #[.int .i64 a0_0, .slice A0_1 l0_1.length c0_1, .int .i64 a0_2, .int .i64 a0_3, .slice A0_4 l0_4.length c0_4, .slice A0_5 l0_5.length c0_5] 26 ?_; intro gb288 hg w15 hbox hb; have n0_ := Aside0.mk (below_step hb_ hb); have n1_ := Aside0.mk (hbox); have n2_ := Aside0.mk ((by rw [hg]; exact (below_size hb_) : w.heap.size ≤ gb288)); have n3_ := Aside0.mk ((by rw [hg]; exact (below_size hb_) : w.heap.size ≤ gb288)); clear HB; have HB := n0_; have BK288 := n1_; have GW288 := n2_; have GE288 := n3_; clear n0_ n1_ n2_ n3_; clear hb hbox hg; have hcz16_0 := bc0 BK288; have hcz16_1 := bc1 BK288; have hcz16_2 := bc2 BK288; have hcz16_3 := bc3 BK288; have hcz16_4 := bc4 BK288; have hcz16_5 := bc5 BK288; have hfz16_0 := blk_frozen BK288.out 0; have hfz16_1 := blk_frozen BK288.out 1; have hfz16_2 := blk_frozen BK288.out 2; have hfz16_3 := blk_frozen BK288.out 3; have hfz16_4 := blk_frozen BK288.out 4; have hfz16_5 := blk_frozen BK288.out 5) | ((with_reducible refine gate_callee (f := 40) rfl ?_); refine goesL_ (some 8) rfl rfl Try.func40 (by kernel_rfl) rfl #[.agg #[.int .i64 a0_0, .slice A0_1 l0_1.length c0_1, .int .i64 a0_2, .int .i64 a0_3, .slice A0_4 l0_4.length c0_4, .slice A0_5 l0_5.length c0_5]] rfl am_ ?_; (with_reducible refine (hopmeshref31_Check.calls k a0_0 _ _ l0_1 a0_2 a0_3 _ _ l0_4 _ _ l0_5 t289 _ ?side1 ?side2 ?side3 ?side4 ?side5 ?side6 A3.out).mono ?_); (case side1 | side3 | side5 => exact cb_); (case side2 | side4 | side6 => first | exact HC0_1.out | exact HC0_4.out | exact HC0_5.out); rintro e w17 ⟨rfl, hb⟩; refine ⟨_, rfl, ?_⟩; have n0_ := bk_ BK288 hb; have n1_ := Aside0.mk (below_step hb_ hb); clear BK288; clear HB; have BK288 := n0_; have HB := n1_; clear n0_ n1_; (try clear hb); (try clear hb2); (try clear hk); (try clear hi)))
  go_ret2
  exact ⟨er_, hb_⟩

/-! ### hopmeshref34_Good: function 22 -/
def hopmeshref34_Good.f (k : Nat) (a0_0 : Int) (l0_1 : List (List Int)) (a0_2 : Int) (a0_3 : Int) (l0_4 : List (S44)) (l0_5 : List Int) (l1 : List (S36)) : Option (Bool) := (hopmeshref34_First.f k a0_0 l0_1 a0_2 a0_3 l0_4 l0_5 l1).bind fun bt292 => ((hopmeshref31_Check.f k a0_0 l0_1 a0_2 a0_3 l0_4 l0_5).bind fun t294 => (if t294 = 0 then (some (!bt292.2)) else (some false)))
theorem hopmeshref34_Good.mono : ∀ a0 a1 a2 a3 a4 a5 a6 k, LeO (hopmeshref34_Good.f k a0 a1 a2 a3 a4 a5 a6) (hopmeshref34_Good.f (k + 1) a0 a1 a2 a3 a4 a5 a6) := by
 intro a0 a1 a2 a3 a4 a5 a6 k
 unfold hopmeshref34_Good.f
 repeat' first
   | (with_reducible exact hopmeshref31_Check.mono _ _ _ _ _ _ _)
   | (with_reducible exact hopmeshref34_First.mono _ _ _ _ _ _ _ _)
   | (with_reducible exact LeO.refl _)
   | (with_reducible exact LeO.none _)
   | (with_reducible refine LeO.ite ?_ ?_)
   | (with_reducible refine LeO.bind ?_ (fun _ => ?_))
   | exact hopmeshref31_Check.mono _ _ _ _ _ _ _
   | exact hopmeshref34_First.mono _ _ _ _ _ _ _ _
   | exact LeO.none _
   | refine LeO.ite ?_ ?_
   | refine LeO.bind ?_ (fun _ => ?_)
set_option maxHeartbeats 8000000 in
set_option maxRecDepth 100000 in
theorem hopmeshref34_Good.calls (k : Nat) (a0_0 : Int) (A0_1 : Option Addr) (c0_1 : Nat) (l0_1 : List (List Int)) (a0_2 : Int) (a0_3 : Int) (A0_4 : Option Addr) (c0_4 : Nat) (l0_4 : List (S44)) (A0_5 : Option Addr) (c0_5 : Nat) (l0_5 : List Int) (A1 : Option Addr) (c1 : Nat) (l1 : List (S36)) (r : Bool) (w : World) (hr0_1 : Kd.C (Kd.slice 3 (Kd.int .i64)) w A0_1 l0_1.length l0_1) (hc0_1 : l0_1.length ≤ c0_1) (hr0_4 : Kd.C k44 w A0_4 l0_4.length l0_4) (hc0_4 : l0_4.length ≤ c0_4) (hr0_5 : Kd.C (Kd.int .i64) w A0_5 l0_5.length l0_5) (hc0_5 : l0_5.length ≤ c0_5) (hr1 : Kd.C k36 w A1 l1.length l1) (hc1 : l1.length ≤ c1) (h : hopmeshref34_Good.f k a0_0 l0_1 a0_2 a0_3 l0_4 l0_5 l1 = some r) :
  Calls Try.prog 22 #[.agg #[.int .i64 a0_0, .slice A0_1 l0_1.length c0_1, .int .i64 a0_2, .int .i64 a0_3, .slice A0_4 l0_4.length c0_4, .slice A0_5 l0_5.length c0_5], .slice A1 l1.length c1] w fun e w' => e = .returned (.bool r) ∧ Below w.heap.size w w' := by
 have hu26 := Try.underlying26
 have HR0_1 := Aside0.mk hr0_1
 have HC0_1 := Aside0.mk hc0_1
 clear hr0_1 hc0_1
 have HR0_4 := Aside0.mk hr0_4
 have HC0_4 := Aside0.mk hc0_4
 clear hr0_4 hc0_4
 have HR0_5 := Aside0.mk hr0_5
 have HC0_5 := Aside0.mk hc0_5
 clear hr0_5 hc0_5
 have HR1 := Aside0.mk hr1
 have HC1 := Aside0.mk hc1
 clear hr1 hc1
 have HB := Aside0.mk (Below.refl w.heap.size w)
 have H : ((hopmeshref34_First.f k a0_0 l0_1 a0_2 a0_3 l0_4 l0_5 l1).bind fun bt292 => ((hopmeshref31_Check.f k a0_0 l0_1 a0_2 a0_3 l0_4 l0_5).bind fun t294 => (if t294 = 0 then (some (!bt292.2)) else (some false)))) = some r := h
 clear h
 replace H := Option.bind_eq_some_iff.mp H
 obtain ⟨⟨t292, t293⟩, A30, H⟩ := H
 replace H : ((hopmeshref31_Check.f k a0_0 l0_1 a0_2 a0_3 l0_4 l0_5).bind fun t294 => (if t294 = 0 then (some (!t293)) else (some false))) = some r := H
 have A3 := Aside0.mk A30
 clear A30
 replace H := Option.bind_eq_some_iff.mp H
 obtain ⟨t294, A40, H⟩ := H
 replace H : (if t294 = 0 then (some (!t293)) else (some false)) = some r := H
 have A4 := Aside0.mk A40
 clear A40
 by_cases c5 : t294 = 0
 ·
  rw [if_pos c5] at H
  have c5b0 : (t294 == 0) = true := beq_iff_eq.mpr c5
  have c5b1 : (t294 != 0) = false := bne_eq_false_iff_eq.mpr c5
  clear c5
  obtain rfl := Option.some.inj H
  go_enter Try.func22, Try.ntmps22
  go_wp2_with (first | ((with_reducible refine gate_dst (N := 2) rfl ?_); refine bx_ 2 #[.int .i64 a0_0, .slice A0_1 l0_1.length c0_1, .int .i64 a0_2, .int .i64 a0_3, .slice A0_4 l0_4.length c0_4, .slice A0_5 l0_5.length c0_5] 26 ?_; intro gb291 hg w6 hbox hb; have n0_ := Aside0.mk (below_step hb_ hb); have n1_ := Aside0.mk (hbox); have n2_ := Aside0.mk ((by rw [hg]; exact (below_size hb_) : w.heap.size ≤ gb291)); have n3_ := Aside0.mk ((by rw [hg]; exact (below_size hb_) : w.heap.size ≤ gb291)); clear HB; have HB := n0_; have BK291 := n1_; have GW291 := n2_; have GE291 := n3_; clear n0_ n1_ n2_ n3_; clear hb hbox hg; have hcz7_0 := bc0 BK291; have hcz7_1 := bc1 BK291; have hcz7_2 := bc2 BK291; have hcz7_3 := bc3 BK291; have hcz7_4 := bc4 BK291; have hcz7_5 := bc5 BK291; have hfz7_0 := blk_frozen BK291.out 0; have hfz7_1 := blk_frozen BK291.out 1; have hfz7_2 := blk_frozen BK291.out 2; have hfz7_3 := blk_frozen BK291.out 3; have hfz7_4 := blk_frozen BK291.out 4; have hfz7_5 := blk_frozen BK291.out 5) | ((with_reducible refine gate_callee (f := 21) rfl ?_); refine goesL_ (some 10) rfl rfl Try.func21 (by kernel_rfl) rfl #[.agg #[.int .i64 a0_0, .slice A0_1 l0_1.length c0_1, .int .i64 a0_2, .int .i64 a0_3, .slice A0_4 l0_4.length c0_4, .slice A0_5 l0_5.length c0_5], .slice A1 l1.length c1] rfl am_ ?_; (with_reducible refine (hopmeshref34_First.calls k a0_0 _ _ l0_1 a0_2 a0_3 _ _ l0_4 _ _ l0_5 _ _ l1 t292 t293 _ ?side1 ?side2 ?side3 ?side4 ?side5 ?side6 ?side7 ?side8 A3.out).mono ?_); (case side1 | side3 | side5 | side7 => exact cb_); (case side2 | side4 | side6 | side8 => first | exact HC0_1.out | exact HC0_4.out | exact HC0_5.out | exact HC1.out); rintro e w8 ⟨rfl, hb⟩; refine ⟨_, rfl, ?_⟩; have n0_ := bk_ BK291 hb; have n1_ := Aside0.mk (below_step hb_ hb); clear BK291; clear HB; have BK291 := n0_; have HB := n1_; clear n0_ n1_; (try clear hb); (try clear hb2); (try clear hk); (try clear hi); have hcz9_0 := bc0 BK291; have hcz9_1 := bc1 BK291; have hcz9_2 := bc2 BK291; have hcz9_3 := bc3 BK291; have hcz9_4 := bc4 BK291; have hcz9_5 := bc5 BK291; have hfz9_0 := blk_frozen BK291.out 0; have hfz9_1 := blk_frozen BK291.out 1; have hfz9_2 := blk_frozen BK291.out 2; have hfz9_3 := blk_frozen BK291.out 3; have hfz9_4 := blk_frozen BK291.out 4; have hfz9_5 := blk_frozen BK291.out 5) | ((with_reducible refine gate_callee (f := 40) rfl ?_); refine goesL_ (some 14) rfl rfl Try.func40 (by kernel_rfl) rfl #[.agg #[.int .i64 a0_0, .slice A0_1 l0_1.length c0_1, .int .i64 a0_2, .int .i64 a0_3, .slice A0_4 l0_4.length c0_4, .slice A0_5 l0_5.length c0_5]] rfl am_ ?_; (with_reducible refine (hopmeshref31_Check.calls k a0_0 _ _ l0_1 a0_2 a0_3 _ _ l0_4 _ _ l0_5 t294 _ ?side1 ?side2 ?side3 ?side4 ?side5 ?side6 A4.out).mono ?_); (case side1 | side3 | side5 => exact cb_); (case side2 | side4 | side6 => first | exact HC0_1.out | exact HC0_4.out | exact HC0_5.out); rintro e w10 ⟨rfl, hb⟩; refine ⟨_, rfl, ?_⟩; have n0_ := bk_ BK291 hb; have n1_ := Aside0.mk (below_step hb_ hb); clear BK291; clear HB; have BK291 := n0_; have HB := n1_; clear n0_ n1_; (try clear hb); (try clear hb2); (try clear hk); (try clear hi)))
  go_ret
  exact ⟨er_, hb_⟩
 ·
  rw [if_neg c5] at H
  have c5b0 : (t294 == 0) = false := beq_eq_false_iff_ne.mpr c5
  have c5b1 : (t294 != 0) = true := bne_iff_ne.mpr c5
  obtain rfl := Option.some.inj H
  go_enter Try.func22, Try.ntmps22
  go_wp2_with (first | ((with_reducible refine gate_dst (N := 2) rfl ?_); refine bx_ 2 #[.int .i64 a0_0, .slice A0_1 l0_1.length c0_1, .int .i64 a0_2, .int .i64 a0_3, .slice A0_4 l0_4.length c0_4, .slice A0_5 l0_5.length c0_5] 26 ?_; intro gb291 hg w11 hbox hb; have n0_ := Aside0.mk (below_step hb_ hb); have n1_ := Aside0.mk (hbox); have n2_ := Aside0.mk ((by rw [hg]; exact (below_size hb_) : w.heap.size ≤ gb291)); have n3_ := Aside0.mk ((by rw [hg]; exact (below_size hb_) : w.heap.size ≤ gb291)); clear HB; have HB := n0_; have BK291 := n1_; have GW291 := n2_; have GE291 := n3_; clear n0_ n1_ n2_ n3_; clear hb hbox hg; have hcz12_0 := bc0 BK291; have hcz12_1 := bc1 BK291; have hcz12_2 := bc2 BK291; have hcz12_3 := bc3 BK291; have hcz12_4 := bc4 BK291; have hcz12_5 := bc5 BK291; have hfz12_0 := blk_frozen BK291.out 0; have hfz12_1 := blk_frozen BK291.out 1; have hfz12_2 := blk_frozen BK291.out 2; have hfz12_3 := blk_frozen BK291.out 3; have hfz12_4 := blk_frozen BK291.out 4; have hfz12_5 := blk_frozen BK291.out 5) | ((with_reducible refine gate_callee (f := 21) rfl ?_); refine goesL_ (some 10) rfl rfl Try.func21 (by kernel_rfl) rfl #[.agg #[.int .i64 a0_0, .slice A0_1 l0_1.length c0_1, .int .i64 a0_2, .int .i64 a0_3, .slice A0_4 l0_4.length c0_4, .slice A0_5 l0_5.length c0_5], .slice A1 l1.length c1] rfl am_ ?_; (with_reducible refine (hopmeshref34_First.calls k a0_0 _ _ l0_1 a0_2 a0_3 _ _ l0_4 _ _ l0_5 _ _ l1 t292 t293 _ ?side1 ?side2 ?side3 ?side4 ?side5 ?side6 ?side7 ?side8 A3.out).mono ?_); (case side1 | side3 | side5 | side7 => exact cb_); (case side2 | side4 | side6 | side8 => first | exact HC0_1.out | exact HC0_4.out | exact HC0_5.out | exact HC1.out); rintro e w13 ⟨rfl, hb⟩; refine ⟨_, rfl, ?_⟩; have n0_ := bk_ BK291 hb; have n1_ := Aside0.mk (below_step hb_ hb); clear BK291; clear HB; have BK291 := n0_; have HB := n1_; clear n0_ n1_; (try clear hb); (try clear hb2); (try clear hk); (try clear hi); have hcz14_0 := bc0 BK291; have hcz14_1 := bc1 BK291; have hcz14_2 := bc2 BK291; have hcz14_3 := bc3 BK291; have hcz14_4 := bc4 BK291; have hcz14_5 := bc5 BK291; have hfz14_0 := blk_frozen BK291.out 0; have hfz14_1 := blk_frozen BK291.out 1; have hfz14_2 := blk_frozen BK291.out 2; have hfz14_3 := blk_frozen BK291.out 3; have hfz14_4 := blk_frozen BK291.out 4; have hfz14_5 := blk_frozen BK291.out 5) | ((with_reducible refine gate_callee (f := 40) rfl ?_); refine goesL_ (some 14) rfl rfl Try.func40 (by kernel_rfl) rfl #[.agg #[.int .i64 a0_0, .slice A0_1 l0_1.length c0_1, .int .i64 a0_2, .int .i64 a0_3, .slice A0_4 l0_4.length c0_4, .slice A0_5 l0_5.length c0_5]] rfl am_ ?_; (with_reducible refine (hopmeshref31_Check.calls k a0_0 _ _ l0_1 a0_2 a0_3 _ _ l0_4 _ _ l0_5 t294 _ ?side1 ?side2 ?side3 ?side4 ?side5 ?side6 A4.out).mono ?_); (case side1 | side3 | side5 => exact cb_); (case side2 | side4 | side6 => first | exact HC0_1.out | exact HC0_4.out | exact HC0_5.out); rintro e w15 ⟨rfl, hb⟩; refine ⟨_, rfl, ?_⟩; have n0_ := bk_ BK291 hb; have n1_ := Aside0.mk (below_step hb_ hb); clear BK291; clear HB; have BK291 := n0_; have HB := n1_; clear n0_ n1_; (try clear hb); (try clear hb2); (try clear hk); (try clear hi)))
  go_ret
  exact ⟨er_, hb_⟩

end Go.Proofs.Ytibgcekekmphoaa.P34
