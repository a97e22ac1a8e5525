-- Written by a program of this session (wip/tools) over the kit's print; Lean checks it.
import Derived.Test.YtibgcekekmphoaaP340
import Derived.Test.YtibgcekekmphoaaP34A
import Derived.Test.YtibgcekekmphoaaP34T
import Derived.Test.YtibgcekekmphoaaP34K
namespace Go.Proofs.Ytibgcekekmphoaa.P34
open Go.RowKit Go.Proofs.YtibgcekekmphoaaW.PrintWords Go.Proofs.YtibgcekekmphoaaW.PrintLast Go.Proofs.YtibgcekekmphoaaW.PrintMore
attribute [local go_sem] max2_int min2_int max_two min_two max_three min_three max_four min_four   -- for this text's walks alone
set_option linter.unusedVariables false
set_option linter.unusedSimpArgs false

/-! ### hopmeshref31_Check: function 40 -/
mutual
def hopmeshref31_Check.j0 : Nat → Bool → Int → List (List Int) → Int → Int → List (S44) → List Int → Option (Int)
 | 0, _, _, _, _, _, _, _ => none
 | k + 1, x23, x122000, x122001, x122002, x122003, x122004, x122005 => if x23 = true then (some 2) else (if (x122004.length : Int) > 128 then (some 8) else (if (x122005.length : Int) = (x122004.length : Int) then (hopmeshref31_Check.l0 k 0 x122000 x122001 x122002 x122003 x122004 x122005) else (some 11)))
def hopmeshref31_Check.l0 : Nat → Int → Int → List (List Int) → Int → Int → List (S44) → List Int → Option (Int)
 | 0, _, _, _, _, _, _, _ => none
 | k + 1, x4, x122000, x122001, x122002, x122003, x122004, x122005 => if x4 < (x122004.length : Int) then ((hopmeshref31_link.f k x122000 x122001 x122002 x122003 x122004 x122005 x4).bind fun t126 => (if t126 = 0 then (hopmeshref31_Check.l0 k (wrap64 (x4 + 1)) x122000 x122001 x122002 x122003 x122004 x122005) else (some t126))) else (some 0)
end
def hopmeshref31_Check.f (k : Nat) (a0_0 : Int) (l0_1 : List (List Int)) (a0_2 : Int) (a0_3 : Int) (l0_4 : List (S44)) (l0_5 : List Int) : Option (Int) := (hopmeshref31_in.f a0_0 2 32).bind fun t122 => (if t122 = true then ((hopmeshref31_table.f k a0_0 l0_1 a0_2 a0_3 l0_4 l0_5).bind fun t123 => (if t123 = 0 then ((hopmeshref31_in.f a0_2 0 68719476736).bind fun t124 => (if t124 = true then ((hopmeshref31_in.f a0_3 1000 100000).bind fun t125 => (hopmeshref31_Check.j0 k (!t125) a0_0 l0_1 a0_2 a0_3 l0_4 l0_5)) else (hopmeshref31_Check.j0 k true a0_0 l0_1 a0_2 a0_3 l0_4 l0_5))) else (some t123))) else (some 2))
theorem hopmeshref31_Check.mono_l : ∀ k, (∀ y0 y1 y2 y3 y4 y5 y6, LeO (hopmeshref31_Check.j0 k y0 y1 y2 y3 y4 y5 y6) (hopmeshref31_Check.j0 (k + 1) y0 y1 y2 y3 y4 y5 y6)) ∧ (∀ y0 y1 y2 y3 y4 y5 y6, LeO (hopmeshref31_Check.l0 k y0 y1 y2 y3 y4 y5 y6) (hopmeshref31_Check.l0 (k + 1) y0 y1 y2 y3 y4 y5 y6))
 | 0 => ⟨fun _ _ _ _ _ _ _ r h => by simp [hopmeshref31_Check.j0] at h, fun _ _ _ _ _ _ _ r h => by simp [hopmeshref31_Check.l0] at h⟩
 | k + 1 => by
  obtain ⟨ih0, ih1⟩ := hopmeshref31_Check.mono_l k
  refine ⟨?_, ?_⟩
  ·
   intro y0 y1 y2 y3 y4 y5 y6
   unfold hopmeshref31_Check.j0
   repeat' first
   | (with_reducible exact ih0 _ _ _ _ _ _ _)
   | (with_reducible exact ih1 _ _ _ _ _ _ _)
   | (with_reducible exact hopmeshref31_link.mono _ _ _ _ _ _ _ _)
   | (with_reducible exact hopmeshref31_table.mono _ _ _ _ _ _ _)
   | (with_reducible exact LeO.refl _)
   | (with_reducible exact LeO.none _)
   | (with_reducible refine LeO.ite ?_ ?_)
   | (with_reducible refine LeO.bind ?_ (fun _ => ?_))
   | exact ih0 _ _ _ _ _ _ _
   | exact ih1 _ _ _ _ _ _ _
   | exact hopmeshref31_link.mono _ _ _ _ _ _ _ _
   | exact hopmeshref31_table.mono _ _ _ _ _ _ _
   | exact LeO.none _
   | refine LeO.ite ?_ ?_
   | refine LeO.bind ?_ (fun _ => ?_)
  ·
   intro y0 y1 y2 y3 y4 y5 y6
   unfold hopmeshref31_Check.l0
   repeat' first
   | (with_reducible exact ih0 _ _ _ _ _ _ _)
   | (with_reducible exact ih1 _ _ _ _ _ _ _)
   | (with_reducible exact hopmeshref31_link.mono _ _ _ _ _ _ _ _)
   | (with_reducible exact hopmeshref31_table.mono _ _ _ _ _ _ _)
   | (with_reducible exact LeO.refl _)
   | (with_reducible exact LeO.none _)
   | (with_reducible refine LeO.ite ?_ ?_)
   | (with_reducible refine LeO.bind ?_ (fun _ => ?_))
   | exact ih0 _ _ _ _ _ _ _
   | exact ih1 _ _ _ _ _ _ _
   | exact hopmeshref31_link.mono _ _ _ _ _ _ _ _
   | exact hopmeshref31_table.mono _ _ _ _ _ _ _
   | exact LeO.none _
   | refine LeO.ite ?_ ?_
   | refine LeO.bind ?_ (fun _ => ?_)
theorem hopmeshref31_Check.mono : ∀ a0 a1 a2 a3 a4 a5 k, LeO (hopmeshref31_Check.f k a0 a1 a2 a3 a4 a5) (hopmeshref31_Check.f (k + 1) a0 a1 a2 a3 a4 a5) := by
 intro a0 a1 a2 a3 a4 a5 k
 obtain ⟨ih0, ih1⟩ := hopmeshref31_Check.mono_l k
 unfold hopmeshref31_Check.f
 repeat' first
   | (with_reducible exact ih0 _ _ _ _ _ _ _)
   | (with_reducible exact ih1 _ _ _ _ _ _ _)
   | (with_reducible exact hopmeshref31_link.mono _ _ _ _ _ _ _ _)
   | (with_reducible exact hopmeshref31_table.mono _ _ _ _ _ _ _)
   | (with_reducible exact LeO.refl _)
   | (with_reducible exact LeO.none _)
   | (with_reducible refine LeO.ite ?_ ?_)
   | (with_reducible refine LeO.bind ?_ (fun _ => ?_))
   | exact ih0 _ _ _ _ _ _ _
   | exact ih1 _ _ _ _ _ _ _
   | exact hopmeshref31_link.mono _ _ _ _ _ _ _ _
   | exact hopmeshref31_table.mono _ _ _ _ _ _ _
   | exact LeO.none _
   | refine LeO.ite ?_ ?_
   | refine LeO.bind ?_ (fun _ => ?_)
set_option maxHeartbeats 8000000 in
set_option maxRecDepth 100000 in
theorem hopmeshref31_Check.calls (k : Nat) (a0_0 : Int) (A0_1 : Option Addr) (c0_1 : Nat) (l0_1 : List (List Int)) (a0_2 : Int) (a0_3 : Int) (A0_4 : Option Addr) (c0_4 : Nat) (l0_4 : List (S44)) (A0_5 : Option Addr) (c0_5 : Nat) (l0_5 : List Int) (r : Int) (w : World) (hr0_1 : Kd.C (Kd.slice 3 (Kd.int .i64)) w A0_1 l0_1.length l0_1) (hc0_1 : l0_1.length ≤ c0_1) (hr0_4 : Kd.C k44 w A0_4 l0_4.length l0_4) (hc0_4 : l0_4.length ≤ c0_4) (hr0_5 : Kd.C (Kd.int .i64) w A0_5 l0_5.length l0_5) (hc0_5 : l0_5.length ≤ c0_5) (h : hopmeshref31_Check.f k a0_0 l0_1 a0_2 a0_3 l0_4 l0_5 = some r) :
  Calls Try.prog 40 #[.agg #[.int .i64 a0_0, .slice A0_1 l0_1.length c0_1, .int .i64 a0_2, .int .i64 a0_3, .slice A0_4 l0_4.length c0_4, .slice A0_5 l0_5.length c0_5]] w fun e w' => e = .returned (.int .i64 r) ∧ Below w.heap.size w w' := by
 have hu26 := Try.underlying26
 have HR0_1 := Aside0.mk hr0_1
 have HC0_1 := Aside0.mk hc0_1
 clear hr0_1 hc0_1
 have HR0_4 := Aside0.mk hr0_4
 have HC0_4 := Aside0.mk hc0_4
 clear hr0_4 hc0_4
 have HR0_5 := Aside0.mk hr0_5
 have HC0_5 := Aside0.mk hc0_5
 clear hr0_5 hc0_5
 have HB := Aside0.mk (Below.refl w.heap.size w)
 have H : ((hopmeshref31_in.f a0_0 2 32).bind fun t122 => (if t122 = true then ((hopmeshref31_table.f k a0_0 l0_1 a0_2 a0_3 l0_4 l0_5).bind fun t123 => (if t123 = 0 then ((hopmeshref31_in.f a0_2 0 68719476736).bind fun t124 => (if t124 = true then ((hopmeshref31_in.f a0_3 1000 100000).bind fun t125 => (hopmeshref31_Check.j0 k (!t125) a0_0 l0_1 a0_2 a0_3 l0_4 l0_5)) else (hopmeshref31_Check.j0 k true a0_0 l0_1 a0_2 a0_3 l0_4 l0_5))) else (some t123))) else (some 2))) = some r := h
 clear h
 replace H := Option.bind_eq_some_iff.mp H
 obtain ⟨t122, A20, H⟩ := H
 replace H : (if t122 = true then ((hopmeshref31_table.f k a0_0 l0_1 a0_2 a0_3 l0_4 l0_5).bind fun t123 => (if t123 = 0 then ((hopmeshref31_in.f a0_2 0 68719476736).bind fun t124 => (if t124 = true then ((hopmeshref31_in.f a0_3 1000 100000).bind fun t125 => (hopmeshref31_Check.j0 k (!t125) a0_0 l0_1 a0_2 a0_3 l0_4 l0_5)) else (hopmeshref31_Check.j0 k true a0_0 l0_1 a0_2 a0_3 l0_4 l0_5))) else (some t123))) else (some 2)) = some r := H
 have A2 := Aside0.mk A20
 clear A20
 by_cases c3 : t122 = true
 ·
  subst c3
  have H1 : ((hopmeshref31_table.f k a0_0 l0_1 a0_2 a0_3 l0_4 l0_5).bind fun t123 => (if t123 = 0 then ((hopmeshref31_in.f a0_2 0 68719476736).bind fun t124 => (if t124 = true then ((hopmeshref31_in.f a0_3 1000 100000).bind fun t125 => (hopmeshref31_Check.j0 k (!t125) a0_0 l0_1 a0_2 a0_3 l0_4 l0_5)) else (hopmeshref31_Check.j0 k true a0_0 l0_1 a0_2 a0_3 l0_4 l0_5))) else (some t123))) = some r := by rw [if_pos rfl] at H; exact H
  clear H
  have H := H1
  clear H1
  replace H := Option.bind_eq_some_iff.mp H
  obtain ⟨t123, A40, H⟩ := H
  replace H : (if t123 = 0 then ((hopmeshref31_in.f a0_2 0 68719476736).bind fun t124 => (if t124 = true then ((hopmeshref31_in.f a0_3 1000 100000).bind fun t125 => (hopmeshref31_Check.j0 k (!t125) a0_0 l0_1 a0_2 a0_3 l0_4 l0_5)) else (hopmeshref31_Check.j0 k true a0_0 l0_1 a0_2 a0_3 l0_4 l0_5))) else (some t123)) = some r := H
  have A4 := Aside0.mk A40
  clear A40
  by_cases c5 : t123 = 0
  ·
   rw [if_pos c5] at H
   have c5b0 : (t123 == 0) = true := beq_iff_eq.mpr c5
   have c5b1 : (t123 != 0) = false := bne_eq_false_iff_eq.mpr c5
   clear c5
   have HC6 := Aside0.mk H
   clear H
   go_enter Try.func40, Try.ntmps40
   go_upto_region 6 with (first | ((with_reducible refine gate_dst (N := 1) rfl ?_); refine bx_ 1 #[.int .i64 a0_0, .slice A0_1 l0_1.length c0_1, .int .i64 a0_2, .int .i64 a0_3, .slice A0_4 l0_4.length c0_4, .slice A0_5 l0_5.length c0_5] 26 ?_; intro gb121 hg w7 hbox hb; have n0_ := Aside0.mk (below_step hb_ hb); have n1_ := Aside0.mk (hbox); have n2_ := Aside0.mk ((by rw [hg]; exact (below_size hb_) : w.heap.size ≤ gb121)); have n3_ := Aside0.mk ((by rw [hg]; exact (below_size hb_) : w.heap.size ≤ gb121)); clear HB; have HB := n0_; have BK121 := n1_; have GW121 := n2_; have GE121 := n3_; clear n0_ n1_ n2_ n3_; clear hb hbox hg; have hcz8_0 := bc0 BK121; have hcz8_1 := bc1 BK121; have hcz8_2 := bc2 BK121; have hcz8_3 := bc3 BK121; have hcz8_4 := bc4 BK121; have hcz8_5 := bc5 BK121; have hfz8_0 := blk_frozen BK121.out 0; have hfz8_1 := blk_frozen BK121.out 1; have hfz8_2 := blk_frozen BK121.out 2; have hfz8_3 := blk_frozen BK121.out 3; have hfz8_4 := blk_frozen BK121.out 4; have hfz8_5 := blk_frozen BK121.out 5) | ((with_reducible refine gate_callee (f := 61) rfl ?_); refine goesL_ (some 7) rfl rfl Try.func61 (by kernel_rfl) rfl #[.int .i64 a0_0, .int .i64 2, .int .i64 32] rfl am_ ?_; (with_reducible refine (hopmeshref31_in.calls a0_0 2 32 true _ A2.out).mono ?_); rintro e w' ⟨rfl, ⟨nd, rfl⟩⟩; refine ⟨_, rfl, ?_⟩) | ((with_reducible refine gate_callee (f := 62) rfl ?_); refine goesL_ (some 10) rfl rfl Try.func62 (by kernel_rfl) rfl #[.agg #[.int .i64 a0_0, .slice A0_1 l0_1.length c0_1, .int .i64 a0_2, .int .i64 a0_3, .slice A0_4 l0_4.length c0_4, .slice A0_5 l0_5.length c0_5]] rfl am_ ?_; (with_reducible refine (hopmeshref31_table.calls k a0_0 _ _ l0_1 a0_2 a0_3 _ _ l0_4 _ _ l0_5 t123 _ ?side1 ?side2 ?side3 ?side4 ?side5 ?side6 A4.out).mono ?_); (case side1 => repeat (first | exact (Kd.C_below HR0_1.out hb_) | (with_reducible refine Kd.C_alloc ?_ _) | (with_reducible refine Kd.C_drewN ?_ _) | (with_reducible refine Kd.C_drew ?_))); (case side2 => exact HC0_1.out); (case side3 => repeat (first | exact (Kd.C_below HR0_4.out hb_) | (with_reducible refine Kd.C_alloc ?_ _) | (with_reducible refine Kd.C_drewN ?_ _) | (with_reducible refine Kd.C_drew ?_))); (case side4 => exact HC0_4.out); (case side5 => repeat (first | exact (Kd.C_below HR0_5.out hb_) | (with_reducible refine Kd.C_alloc ?_ _) | (with_reducible refine Kd.C_drewN ?_ _) | (with_reducible refine Kd.C_drew ?_))); (case side6 => exact HC0_5.out); rintro e w9 ⟨rfl, hb⟩; refine ⟨_, rfl, ?_⟩; have n0_ := bk_ BK121 hb; have n1_ := Aside0.mk (below_step hb_ hb); clear BK121; clear HB; have BK121 := n0_; have HB := n1_; clear n0_ n1_; (try clear hb); (try clear hb2); (try clear hk); (try clear hi)))
   (try simp only [Act.put, List.setIfInBounds_toArray, List.set_cons_zero, List.set_cons_succ])
   go_cut [23] (fun v23 wc => ∃ (kq : Nat) (x23_5 : Bool), v23 = .bool x23_5 ∧ Aside0 (hopmeshref31_Check.j0 kq x23_5 a0_0 l0_1 a0_2 a0_3 l0_4 l0_5 = some r) ∧ Aside0 (kq ≤ k) ∧ Aside0 (wc.heap[gb121]? = some (.cells #[.int .i64 a0_0, (.slice A0_1 l0_1.length c0_1), .int .i64 a0_2, .int .i64 a0_3, (.slice A0_4 l0_4.length c0_4), (.slice A0_5 l0_5.length c0_5)] 26 (0, 0))) ∧ Aside0 (Below w.heap.size w wc))
   case first =>
    have H := HC6.out
    clear HC6
    replace H := Option.bind_eq_some_iff.mp H
    obtain ⟨t124, A100, H⟩ := H
    replace H : (if t124 = true then ((hopmeshref31_in.f a0_3 1000 100000).bind fun t125 => (hopmeshref31_Check.j0 k (!t125) a0_0 l0_1 a0_2 a0_3 l0_4 l0_5)) else (hopmeshref31_Check.j0 k true a0_0 l0_1 a0_2 a0_3 l0_4 l0_5)) = some r := H
    have A10 := Aside0.mk A100
    clear A100
    by_cases c11 : t124 = true
    ·
     subst c11
     have H1 : ((hopmeshref31_in.f a0_3 1000 100000).bind fun t125 => (hopmeshref31_Check.j0 k (!t125) a0_0 l0_1 a0_2 a0_3 l0_4 l0_5)) = some r := by rw [if_pos rfl] at H; exact H
     clear H
     have H := H1
     clear H1
     replace H := Option.bind_eq_some_iff.mp H
     obtain ⟨t125, A120, H⟩ := H
     replace H : (hopmeshref31_Check.j0 k (!t125) a0_0 l0_1 a0_2 a0_3 l0_4 l0_5) = some r := H
     have A12 := Aside0.mk A120
     clear A120
     have H' := Aside0.mk H
     clear H
     have hcz13_0 := bc0 BK121
     have hcz13_1 := bc1 BK121
     have hcz13_2 := bc2 BK121
     have hcz13_3 := bc3 BK121
     have hcz13_4 := bc4 BK121
     have hcz13_5 := bc5 BK121
     have hfz13_0 := blk_frozen BK121.out 0
     have hfz13_1 := blk_frozen BK121.out 1
     have hfz13_2 := blk_frozen BK121.out 2
     have hfz13_3 := blk_frozen BK121.out 3
     have hfz13_4 := blk_frozen BK121.out 4
     have hfz13_5 := blk_frozen BK121.out 5
     go_wp2_with (first | ((with_reducible refine gate_callee (f := 61) rfl ?_); refine goesL_ (some 16) rfl rfl Try.func61 (by kernel_rfl) rfl #[.int .i64 a0_2, .int .i64 0, .int .i64 68719476736] rfl am_ ?_; (with_reducible refine (hopmeshref31_in.calls a0_2 0 68719476736 true _ A10.out).mono ?_); rintro e w' ⟨rfl, ⟨nd, rfl⟩⟩; refine ⟨_, rfl, ?_⟩) | (go_at_call 61; (with_reducible refine (hopmeshref31_in.calls a0_3 1000 100000 t125 _ A12.out).mono ?_); rintro e w' ⟨rfl, ⟨nd, rfl⟩⟩))
     go_meet
     case rel => exact ⟨_, (!t125), rl_, H', ⟨by first | omega | exact Nat.le_refl _⟩, ⟨bj_ BK121⟩, ⟨hb_⟩⟩
    ·
     replace c11 := Bool.eq_false_iff.mpr c11
     subst c11
     have H1 : (hopmeshref31_Check.j0 k true a0_0 l0_1 a0_2 a0_3 l0_4 l0_5) = some r := by rw [if_neg (show ¬ (false = true) by decide)] at H; exact H
     clear H
     have H := H1
     clear H1
     have H' := Aside0.mk H
     clear H
     have hcz14_0 := bc0 BK121
     have hcz14_1 := bc1 BK121
     have hcz14_2 := bc2 BK121
     have hcz14_3 := bc3 BK121
     have hcz14_4 := bc4 BK121
     have hcz14_5 := bc5 BK121
     have hfz14_0 := blk_frozen BK121.out 0
     have hfz14_1 := blk_frozen BK121.out 1
     have hfz14_2 := blk_frozen BK121.out 2
     have hfz14_3 := blk_frozen BK121.out 3
     have hfz14_4 := blk_frozen BK121.out 4
     have hfz14_5 := blk_frozen BK121.out 5
     go_wp2_with (first | ((with_reducible refine gate_callee (f := 61) rfl ?_); refine goesL_ (some 16) rfl rfl Try.func61 (by kernel_rfl) rfl #[.int .i64 a0_2, .int .i64 0, .int .i64 68719476736] rfl am_ ?_; (with_reducible refine (hopmeshref31_in.calls a0_2 0 68719476736 false _ A10.out).mono ?_); rintro e w' ⟨rfl, ⟨nd, rfl⟩⟩; refine ⟨_, rfl, ?_⟩))
     go_meet
     case rel => exact ⟨_, (true), rl_, H', ⟨by first | omega | exact Nat.le_refl _⟩, ⟨bj_ BK121⟩, ⟨hb_⟩⟩
   case rest =>
    clear HC6
    try clear c1; try clear p2; try clear c3; try clear c4; try clear c5; try clear c5b0; try clear c5b1; try clear c6; try clear c11; try clear hcz13_0; try clear hcz13_1; try clear hcz13_2; try clear hcz13_3; try clear hcz13_4; try clear hcz13_5; try clear hcz14_0; try clear hcz14_1; try clear hcz14_2; try clear hcz14_3; try clear hcz14_4; try clear hcz14_5; try clear hcz8_0; try clear hcz8_1; try clear hcz8_2; try clear hcz8_3; try clear hcz8_4; try clear hcz8_5; try clear hfz13_0; try clear hfz13_1; try clear hfz13_2; try clear hfz13_3; try clear hfz13_4; try clear hfz13_5; try clear hfz14_0; try clear hfz14_1; try clear hfz14_2; try clear hfz14_3; try clear hfz14_4; try clear hfz14_5; try clear hfz8_0; try clear hfz8_1; try clear hfz8_2; try clear hfz8_3; try clear hfz8_4; try clear hfz8_5
    (repeat clear BK121); (repeat clear HB)
    obtain ⟨kq, x23_5, rfl, HA, HJ5, BK121, HB⟩ := hcut
    cases kq with
    | zero => exact absurd HA.out (by simp [hopmeshref31_Check.j0])
    | succ kj5 =>
     have H := HA.out
     clear HA
     simp only [hopmeshref31_Check.j0] at H
     by_cases c15 : x23_5 = true
     ·
      subst c15
      have H1 : (some 2) = some r := by rw [if_pos rfl] at H; exact H
      clear H
      have H := H1
      clear H1
      obtain rfl := Option.some.inj H
      go_wp2
      go_ret
      exact ⟨er_, hb_⟩
     ·
      replace c15 := Bool.eq_false_iff.mpr c15
      subst c15
      have H1 : (if (l0_4.length : Int) > 128 then (some 8) else (if (l0_5.length : Int) = (l0_4.length : Int) then (hopmeshref31_Check.l0 kj5 0 a0_0 l0_1 a0_2 a0_3 l0_4 l0_5) else (some 11))) = some r := by rw [if_neg (show ¬ (false = true) by decide)] at H; exact H
      clear H
      have H := H1
      clear H1
      by_cases c16 : (l0_4.length : Int) > 128
      ·
       rw [if_pos c16] at H
       have c16b0 : decide (128 < (l0_4.length : Int)) = true := decide_eq_true c16
       have c16b1 : decide (128 < l0_4.length) = true := decide_eq_true (by omega)
       clear c16
       obtain rfl := Option.some.inj H
       have hcz17_0 := bc0 BK121
       have hcz17_1 := bc1 BK121
       have hcz17_2 := bc2 BK121
       have hcz17_3 := bc3 BK121
       have hcz17_4 := bc4 BK121
       have hcz17_5 := bc5 BK121
       have hfz17_0 := blk_frozen BK121.out 0
       have hfz17_1 := blk_frozen BK121.out 1
       have hfz17_2 := blk_frozen BK121.out 2
       have hfz17_3 := blk_frozen BK121.out 3
       have hfz17_4 := blk_frozen BK121.out 4
       have hfz17_5 := blk_frozen BK121.out 5
       go_wp2
       go_ret
       exact ⟨er_, hb_⟩
      ·
       rw [if_neg c16] at H
       have c16b0 : decide (128 < (l0_4.length : Int)) = false := decide_eq_false c16
       have c16b1 : decide (128 < l0_4.length) = false := decide_eq_false (by omega)
       clear c16
       by_cases c18 : (l0_5.length : Int) = (l0_4.length : Int)
       ·
        rw [if_pos c18] at H
        have c18b0 : ((l0_5.length : Int) == (l0_4.length : Int)) = true := beq_iff_eq.mpr c18
        have c18b1 : ((l0_5.length : Int) != (l0_4.length : Int)) = false := bne_eq_false_iff_eq.mpr c18
        have c18b2 : (l0_5.length == l0_4.length) = true := by first | simpa using c18 | (simp at c18 ⊢; omega)
        clear c18
        have H' := Aside0.mk H
        clear H
        have hcz19_0 := bc0 BK121
        have hcz19_1 := bc1 BK121
        have hcz19_2 := bc2 BK121
        have hcz19_3 := bc3 BK121
        have hcz19_4 := bc4 BK121
        have hcz19_5 := bc5 BK121
        have hfz19_0 := blk_frozen BK121.out 0
        have hfz19_1 := blk_frozen BK121.out 1
        have hfz19_2 := blk_frozen BK121.out 2
        have hfz19_3 := blk_frozen BK121.out 3
        have hfz19_4 := blk_frozen BK121.out 4
        have hfz19_5 := blk_frozen BK121.out 5
        go_wp2
        go_loopg [4] kj5 (fun kq v4 w' => ∃ (x4_2 : Int), v4 = .int .i64 x4_2 ∧ Aside0 (hopmeshref31_Check.l0 kq x4_2 a0_0 l0_1 a0_2 a0_3 l0_4 l0_5 = some r) ∧ Aside0 (kq ≤ kj5) ∧ Aside0 (w'.heap[gb121]? = some (.cells #[.int .i64 a0_0, (.slice A0_1 l0_1.length c0_1), .int .i64 a0_2, .int .i64 a0_3, (.slice A0_4 l0_4.length c0_4), (.slice A0_5 l0_5.length c0_5)] 26 (0, 0))) ∧ Aside0 (Below w.heap.size w w'))
        case atStart => exact ⟨(0), rl_, H', ⟨Nat.le_refl _⟩, ⟨bj_ BK121⟩, ⟨hb_⟩⟩
        case round =>
         clear H'
         try clear c1; try clear p2; try clear c3; try clear c4; try clear c5; try clear c5b0; try clear c5b1; try clear c6; try clear c11; try clear c15; try clear c16; try clear c16b0; try clear c16b1; try clear c18; try clear c18b0; try clear c18b1; try clear c18b2; try clear hcz13_0; try clear hcz13_1; try clear hcz13_2; try clear hcz13_3; try clear hcz13_4; try clear hcz13_5; try clear hcz14_0; try clear hcz14_1; try clear hcz14_2; try clear hcz14_3; try clear hcz14_4; try clear hcz14_5; try clear hcz17_0; try clear hcz17_1; try clear hcz17_2; try clear hcz17_3; try clear hcz17_4; try clear hcz17_5; try clear hcz19_0; try clear hcz19_1; try clear hcz19_2; try clear hcz19_3; try clear hcz19_4; try clear hcz19_5; try clear hcz8_0; try clear hcz8_1; try clear hcz8_2; try clear hcz8_3; try clear hcz8_4; try clear hcz8_5; try clear hfz13_0; try clear hfz13_1; try clear hfz13_2; try clear hfz13_3; try clear hfz13_4; try clear hfz13_5; try clear hfz14_0; try clear hfz14_1; try clear hfz14_2; try clear hfz14_3; try clear hfz14_4; try clear hfz14_5; try clear hfz17_0; try clear hfz17_1; try clear hfz17_2; try clear hfz17_3; try clear hfz17_4; try clear hfz17_5; try clear hfz19_0; try clear hfz19_1; try clear hfz19_2; try clear hfz19_3; try clear hfz19_4; try clear hfz19_5; try clear hfz8_0; try clear hfz8_1; try clear hfz8_2; try clear hfz8_3; try clear hfz8_4; try clear hfz8_5; try clear p2
         (repeat clear BK121); (repeat clear HB)
         obtain ⟨x4_2, rfl, HA, HK2, BK121, HB⟩ := hrel
         cases gk with
         | zero => exact absurd HA.out (by simp [hopmeshref31_Check.l0])
         | succ k2 =>
          have H := HA.out
          clear HA
          simp only [hopmeshref31_Check.l0] at H
          by_cases c20 : x4_2 < (l0_4.length : Int)
          ·
           rw [if_pos c20] at H
           have c20b0 : decide (x4_2 < (l0_4.length : Int)) = true := decide_eq_true c20
           clear c20
           replace H := Option.bind_eq_some_iff.mp H
           obtain ⟨t126, A210, H⟩ := H
           replace H : (if t126 = 0 then (hopmeshref31_Check.l0 k2 (wrap64 (x4_2 + 1)) a0_0 l0_1 a0_2 a0_3 l0_4 l0_5) else (some t126)) = some r := H
           have A21 := Aside0.mk A210
           clear A210
           by_cases c22 : t126 = 0
           ·
            rw [if_pos c22] at H
            have c22b0 : (t126 == 0) = true := beq_iff_eq.mpr c22
            have c22b1 : (t126 != 0) = false := bne_eq_false_iff_eq.mpr c22
            clear c22
            have H' := Aside0.mk H
            clear H
            have hcz23_0 := bc0 BK121
            have hcz23_1 := bc1 BK121
            have hcz23_2 := bc2 BK121
            have hcz23_3 := bc3 BK121
            have hcz23_4 := bc4 BK121
            have hcz23_5 := bc5 BK121
            have hfz23_0 := blk_frozen BK121.out 0
            have hfz23_1 := blk_frozen BK121.out 1
            have hfz23_2 := blk_frozen BK121.out 2
            have hfz23_3 := blk_frozen BK121.out 3
            have hfz23_4 := blk_frozen BK121.out 4
            have hfz23_5 := blk_frozen BK121.out 5
            go_wp2_with (first | ((with_reducible refine gate_callee (f := 63) rfl ?_); refine goesL_ (some 44) rfl rfl Try.func63 (by kernel_rfl) rfl #[.agg #[.int .i64 a0_0, .slice A0_1 l0_1.length c0_1, .int .i64 a0_2, .int .i64 a0_3, .slice A0_4 l0_4.length c0_4, .slice A0_5 l0_5.length c0_5], .int .i64 x4_2] rfl am_ ?_; (with_reducible refine (hopmeshref31_link.calls k2 a0_0 _ _ l0_1 a0_2 a0_3 _ _ l0_4 _ _ l0_5 x4_2 t126 _ ?side1 ?side2 ?side3 ?side4 ?side5 ?side6 A21.out).mono ?_); (case side1 | side3 | side5 => exact cb_); (case side2 | side4 | side6 => first | exact HC0_1.out | exact HC0_4.out | exact HC0_5.out); rintro e w24 ⟨rfl, hb⟩; refine ⟨_, rfl, ?_⟩; have n0_ := bk_ BK121 hb; have n1_ := Aside0.mk (below_step hb_ hb); clear BK121; clear HB; have BK121 := n0_; have HB := n1_; clear n0_ n1_; (try clear hb); (try clear hb2); (try clear hk); (try clear hi)))
            go_roundg k2
            case measure => have := HJ5.out; have := HK2.out; omega
            case rel => exact ⟨(wrap64 (x4_2 + 1)), rl_, H', ⟨by have := HJ5.out; have := HK2.out; omega⟩, ⟨bj_ BK121⟩, ⟨hb_⟩⟩
           ·
            rw [if_neg c22] at H
            have c22b0 : (t126 == 0) = false := beq_eq_false_iff_ne.mpr c22
            have c22b1 : (t126 != 0) = true := bne_iff_ne.mpr c22
            obtain rfl := Option.some.inj H
            have hcz25_0 := bc0 BK121
            have hcz25_1 := bc1 BK121
            have hcz25_2 := bc2 BK121
            have hcz25_3 := bc3 BK121
            have hcz25_4 := bc4 BK121
            have hcz25_5 := bc5 BK121
            have hfz25_0 := blk_frozen BK121.out 0
            have hfz25_1 := blk_frozen BK121.out 1
            have hfz25_2 := blk_frozen BK121.out 2
            have hfz25_3 := blk_frozen BK121.out 3
            have hfz25_4 := blk_frozen BK121.out 4
            have hfz25_5 := blk_frozen BK121.out 5
            go_wp2_with (first | ((with_reducible refine gate_callee (f := 63) rfl ?_); refine goesL_ (some 44) rfl rfl Try.func63 (by kernel_rfl) rfl #[.agg #[.int .i64 a0_0, .slice A0_1 l0_1.length c0_1, .int .i64 a0_2, .int .i64 a0_3, .slice A0_4 l0_4.length c0_4, .slice A0_5 l0_5.length c0_5], .int .i64 x4_2] rfl am_ ?_; (with_reducible refine (hopmeshref31_link.calls k2 a0_0 _ _ l0_1 a0_2 a0_3 _ _ l0_4 _ _ l0_5 x4_2 t126 _ ?side1 ?side2 ?side3 ?side4 ?side5 ?side6 A21.out).mono ?_); (case side1 | side3 | side5 => exact cb_); (case side2 | side4 | side6 => first | exact HC0_1.out | exact HC0_4.out | exact HC0_5.out); rintro e w26 ⟨rfl, hb⟩; refine ⟨_, rfl, ?_⟩; have n0_ := bk_ BK121 hb; have n1_ := Aside0.mk (below_step hb_ hb); clear BK121; clear HB; have BK121 := n0_; have HB := n1_; clear n0_ n1_; (try clear hb); (try clear hb2); (try clear hk); (try clear hi)))
            go_ret
            exact ⟨er_, hb_⟩
          ·
           rw [if_neg c20] at H
           have c20b0 : decide (x4_2 < (l0_4.length : Int)) = false := decide_eq_false c20
           clear c20
           obtain rfl := Option.some.inj H
           have hcz27_0 := bc0 BK121
           have hcz27_1 := bc1 BK121
           have hcz27_2 := bc2 BK121
           have hcz27_3 := bc3 BK121
           have hcz27_4 := bc4 BK121
           have hcz27_5 := bc5 BK121
           have hfz27_0 := blk_frozen BK121.out 0
           have hfz27_1 := blk_frozen BK121.out 1
           have hfz27_2 := blk_frozen BK121.out 2
           have hfz27_3 := blk_frozen BK121.out 3
           have hfz27_4 := blk_frozen BK121.out 4
           have hfz27_5 := blk_frozen BK121.out 5
           go_wp2
           go_ret
           exact ⟨er_, hb_⟩
       ·
        rw [if_neg c18] at H
        have c18b0 : ((l0_5.length : Int) == (l0_4.length : Int)) = false := beq_eq_false_iff_ne.mpr c18
        have c18b1 : ((l0_5.length : Int) != (l0_4.length : Int)) = true := bne_iff_ne.mpr c18
        have c18b2 : (l0_5.length == l0_4.length) = false := by first | simpa using c18 | (simp at c18 ⊢; omega)
        obtain rfl := Option.some.inj H
        have hcz28_0 := bc0 BK121
        have hcz28_1 := bc1 BK121
        have hcz28_2 := bc2 BK121
        have hcz28_3 := bc3 BK121
        have hcz28_4 := bc4 BK121
        have hcz28_5 := bc5 BK121
        have hfz28_0 := blk_frozen BK121.out 0
        have hfz28_1 := blk_frozen BK121.out 1
        have hfz28_2 := blk_frozen BK121.out 2
        have hfz28_3 := blk_frozen BK121.out 3
        have hfz28_4 := blk_frozen BK121.out 4
        have hfz28_5 := blk_frozen BK121.out 5
        go_wp2
        go_ret
        exact ⟨er_, hb_⟩
  ·
   rw [if_neg c5] at H
   have c5b0 : (t123 == 0) = false := beq_eq_false_iff_ne.mpr c5
   have c5b1 : (t123 != 0) = true := bne_iff_ne.mpr c5
   obtain rfl := Option.some.inj H
   go_enter Try.func40, Try.ntmps40
   go_wp2_with (first | ((with_reducible refine gate_dst (N := 1) rfl ?_); refine bx_ 1 #[.int .i64 a0_0, .slice A0_1 l0_1.length c0_1, .int .i64 a0_2, .int .i64 a0_3, .slice A0_4 l0_4.length c0_4, .slice A0_5 l0_5.length c0_5] 26 ?_; intro gb121 hg w29 hbox hb; have n0_ := Aside0.mk (below_step hb_ hb); have n1_ := Aside0.mk (hbox); have n2_ := Aside0.mk ((by rw [hg]; exact (below_size hb_) : w.heap.size ≤ gb121)); have n3_ := Aside0.mk ((by rw [hg]; exact (below_size hb_) : w.heap.size ≤ gb121)); clear HB; have HB := n0_; have BK121 := n1_; have GW121 := n2_; have GE121 := n3_; clear n0_ n1_ n2_ n3_; clear hb hbox hg; have hcz30_0 := bc0 BK121; have hcz30_1 := bc1 BK121; have hcz30_2 := bc2 BK121; have hcz30_3 := bc3 BK121; have hcz30_4 := bc4 BK121; have hcz30_5 := bc5 BK121; have hfz30_0 := blk_frozen BK121.out 0; have hfz30_1 := blk_frozen BK121.out 1; have hfz30_2 := blk_frozen BK121.out 2; have hfz30_3 := blk_frozen BK121.out 3; have hfz30_4 := blk_frozen BK121.out 4; have hfz30_5 := blk_frozen BK121.out 5) | ((with_reducible refine gate_callee (f := 61) rfl ?_); refine goesL_ (some 7) rfl rfl Try.func61 (by kernel_rfl) rfl #[.int .i64 a0_0, .int .i64 2, .int .i64 32] rfl am_ ?_; (with_reducible refine (hopmeshref31_in.calls a0_0 2 32 true _ A2.out).mono ?_); rintro e w' ⟨rfl, ⟨nd, rfl⟩⟩; refine ⟨_, rfl, ?_⟩) | ((with_reducible refine gate_callee (f := 62) rfl ?_); refine goesL_ (some 10) rfl rfl Try.func62 (by kernel_rfl) rfl #[.agg #[.int .i64 a0_0, .slice A0_1 l0_1.length c0_1, .int .i64 a0_2, .int .i64 a0_3, .slice A0_4 l0_4.length c0_4, .slice A0_5 l0_5.length c0_5]] rfl am_ ?_; (with_reducible refine (hopmeshref31_table.calls k a0_0 _ _ l0_1 a0_2 a0_3 _ _ l0_4 _ _ l0_5 t123 _ ?side1 ?side2 ?side3 ?side4 ?side5 ?side6 A4.out).mono ?_); (case side1 => repeat (first | exact (Kd.C_below HR0_1.out hb_) | (with_reducible refine Kd.C_alloc ?_ _) | (with_reducible refine Kd.C_drewN ?_ _) | (with_reducible refine Kd.C_drew ?_))); (case side2 => exact HC0_1.out); (case side3 => repeat (first | exact (Kd.C_below HR0_4.out hb_) | (with_reducible refine Kd.C_alloc ?_ _) | (with_reducible refine Kd.C_drewN ?_ _) | (with_reducible refine Kd.C_drew ?_))); (case side4 => exact HC0_4.out); (case side5 => repeat (first | exact (Kd.C_below HR0_5.out hb_) | (with_reducible refine Kd.C_alloc ?_ _) | (with_reducible refine Kd.C_drewN ?_ _) | (with_reducible refine Kd.C_drew ?_))); (case side6 => exact HC0_5.out); rintro e w31 ⟨rfl, hb⟩; refine ⟨_, rfl, ?_⟩; have n0_ := bk_ BK121 hb; have n1_ := Aside0.mk (below_step hb_ hb); clear BK121; clear HB; have BK121 := n0_; have HB := n1_; clear n0_ n1_; (try clear hb); (try clear hb2); (try clear hk); (try clear hi)))
   go_ret
   exact ⟨er_, hb_⟩
 ·
  replace c3 := Bool.eq_false_iff.mpr c3
  subst c3
  have H1 : (some 2) = some r := by rw [if_neg (show ¬ (false = true) by decide)] at H; exact H
  clear H
  have H := H1
  clear H1
  obtain rfl := Option.some.inj H
  go_enter Try.func40, Try.ntmps40
  go_wp2_with (first | ((with_reducible refine gate_dst (N := 1) rfl ?_); refine bx_ 1 #[.int .i64 a0_0, .slice A0_1 l0_1.length c0_1, .int .i64 a0_2, .int .i64 a0_3, .slice A0_4 l0_4.length c0_4, .slice A0_5 l0_5.length c0_5] 26 ?_; intro gb121 hg w32 hbox hb; have n0_ := Aside0.mk (below_step hb_ hb); have n1_ := Aside0.mk (hbox); have n2_ := Aside0.mk ((by rw [hg]; exact (below_size hb_) : w.heap.size ≤ gb121)); have n3_ := Aside0.mk ((by rw [hg]; exact (below_size hb_) : w.heap.size ≤ gb121)); clear HB; have HB := n0_; have BK121 := n1_; have GW121 := n2_; have GE121 := n3_; clear n0_ n1_ n2_ n3_; clear hb hbox hg; have hcz33_0 := bc0 BK121; have hcz33_1 := bc1 BK121; have hcz33_2 := bc2 BK121; have hcz33_3 := bc3 BK121; have hcz33_4 := bc4 BK121; have hcz33_5 := bc5 BK121; have hfz33_0 := blk_frozen BK121.out 0; have hfz33_1 := blk_frozen BK121.out 1; have hfz33_2 := blk_frozen BK121.out 2; have hfz33_3 := blk_frozen BK121.out 3; have hfz33_4 := blk_frozen BK121.out 4; have hfz33_5 := blk_frozen BK121.out 5) | ((with_reducible refine gate_callee (f := 61) rfl ?_); refine goesL_ (some 7) rfl rfl Try.func61 (by kernel_rfl) rfl #[.int .i64 a0_0, .int .i64 2, .int .i64 32] rfl am_ ?_; (with_reducible refine (hopmeshref31_in.calls a0_0 2 32 false _ A2.out).mono ?_); rintro e w' ⟨rfl, ⟨nd, rfl⟩⟩; refine ⟨_, rfl, ?_⟩))
  go_ret
  exact ⟨er_, hb_⟩

end Go.Proofs.Ytibgcekekmphoaa.P34
