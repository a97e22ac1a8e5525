-- Written by a program of this session (wip/tools) over the kit's print; Lean checks it.
import Derived.Test.YtmbbijhppgkdfaaP140
import Derived.Test.YtmbbijhppgkdfaaP14Eq0
import Derived.Test.YtmbbijhppgkdfaaP14Aw
import Derived.Test.YtmbbijhppgkdfaaP14Re
import Derived.Test.YtmbbijhppgkdfaaGclone
import Derived.Test.YtmbbijhppgkdfaaGexp
import Derived.Test.YtmbbijhppgkdfaaGfew
namespace Go.Proofs.Ytmbbijhppgkdfaa.P14
open Go.RowKit Go.Proofs.YtmbbijhppgkdfaaW.PrintWords Go.Proofs.YtmbbijhppgkdfaaW.PrintLast Go.Proofs.YtmbbijhppgkdfaaW.PrintMore
attribute [local go_sem] max2_int min2_int max_two min_two max_three min_three max_four min_four   -- for this text's walks alone
set_option linter.unusedVariables false
set_option linter.unusedSimpArgs false

attribute [local go_sem high] eqA24
/-! ### hopmeshlaw14_CompressReads: function 6 -/
def hopmeshlaw14_CompressReads.j0 : Nat → List (S26) → ByteArray → Bool → Option (Bool)
 | 0, _, _, _ => none
 | k + 1, x0, x1, x20 => if x20 = true then (some true) else ((api_Context.f x0).bind fun t350 => ((compress_Expand.f t350 x1).bind fun bt353 => ((hopmeshref14_Expand.f k x0 x1).bind fun bt363 => (if (bt353.1 == bt363.1 && (bt353.2.1 == bt363.2.1 && (bt353.2.2.1.toList == bt363.2.2.1.toList && (bt353.2.2.2.1.toList == bt363.2.2.2.1.toList && (bt353.2.2.2.2.1 == bt363.2.2.2.2.1 && (bt353.2.2.2.2.2.1 == bt363.2.2.2.2.2.1 && (bt353.2.2.2.2.2.2.1 == bt363.2.2.2.2.2.2.1))))))) = true then (if bt353.2.2.2.2.2.2.2.1.toList = bt363.2.2.2.2.2.2.2.1.toList then (some (bt353.2.2.2.2.2.2.2.2 == bt363.2.2.2.2.2.2.2.2)) else (some false)) else (some false)))))
def hopmeshlaw14_CompressReads.f (k : Nat) (l0 : List (S26)) (a1 : ByteArray) : Option (Bool) := (hopmeshlaw14_awake.f k).bind fun t348 => (if t348 = true then ((hopmeshlaw14_few.f l0).bind fun t349 => (if t349 = true then (hopmeshlaw14_CompressReads.j0 k l0 a1 (decide ((a1.size : Int) > 100))) else (hopmeshlaw14_CompressReads.j0 k l0 a1 true))) else (some false))
theorem hopmeshlaw14_CompressReads.mono_l : ∀ k, (∀ y0 y1 y2, LeO (hopmeshlaw14_CompressReads.j0 k y0 y1 y2) (hopmeshlaw14_CompressReads.j0 (k + 1) y0 y1 y2))
 | 0 => fun _ _ _ r h => by simp [hopmeshlaw14_CompressReads.j0] at h
 | k + 1 => by
  have ih0 := hopmeshlaw14_CompressReads.mono_l k
  ·
   intro y0 y1 y2
   unfold hopmeshlaw14_CompressReads.j0
   repeat' first
   | (with_reducible exact ih0 _ _ _)
   | (with_reducible exact hopmeshlaw14_awake.mono _)
   | (with_reducible exact hopmeshref14_Expand.mono _ _ _)
   | (with_reducible exact LeO.refl _)
   | (with_reducible exact LeO.none _)
   | (with_reducible refine LeO.ite ?_ ?_)
   | (with_reducible refine LeO.bind ?_ (fun _ => ?_))
   | exact ih0 _ _ _
   | exact hopmeshlaw14_awake.mono _
   | exact hopmeshref14_Expand.mono _ _ _
   | exact LeO.none _
   | refine LeO.ite ?_ ?_
   | refine LeO.bind ?_ (fun _ => ?_)
theorem hopmeshlaw14_CompressReads.mono : ∀ a0 a1 k, LeO (hopmeshlaw14_CompressReads.f k a0 a1) (hopmeshlaw14_CompressReads.f (k + 1) a0 a1) := by
 intro a0 a1 k
 have ih0 := hopmeshlaw14_CompressReads.mono_l k
 unfold hopmeshlaw14_CompressReads.f
 repeat' first
   | (with_reducible exact ih0 _ _ _)
   | (with_reducible exact hopmeshlaw14_awake.mono _)
   | (with_reducible exact hopmeshref14_Expand.mono _ _ _)
   | (with_reducible exact LeO.refl _)
   | (with_reducible exact LeO.none _)
   | (with_reducible refine LeO.ite ?_ ?_)
   | (with_reducible refine LeO.bind ?_ (fun _ => ?_))
   | exact ih0 _ _ _
   | exact hopmeshlaw14_awake.mono _
   | exact hopmeshref14_Expand.mono _ _ _
   | exact LeO.none _
   | refine LeO.ite ?_ ?_
   | refine LeO.bind ?_ (fun _ => ?_)
set_option maxHeartbeats 8000000 in
set_option maxRecDepth 100000 in
theorem hopmeshlaw14_CompressReads.calls (k : Nat) (A0 : Option Addr) (c0 : Nat) (l0 : List (S26)) (a1 : ByteArray) (r : Bool) (w : World) (hr0 : Kd.C k26 w A0 l0.length l0) (hc0 : l0.length ≤ c0) (h : hopmeshlaw14_CompressReads.f k l0 a1 = some r) :
  Calls Try.prog 6 #[.slice A0 l0.length c0, .string a1] w fun e w' => e = .returned (.bool r) ∧ Below w.heap.size w w' := by
 have hu24 := Try.underlying24
 have HR0 := Aside0.mk hr0
 have HC0 := Aside0.mk hc0
 clear hr0 hc0
 have HB := Aside0.mk (Below.refl w.heap.size w)
 have H : ((hopmeshlaw14_awake.f k).bind fun t348 => (if t348 = true then ((hopmeshlaw14_few.f l0).bind fun t349 => (if t349 = true then (hopmeshlaw14_CompressReads.j0 k l0 a1 (decide ((a1.size : Int) > 100))) else (hopmeshlaw14_CompressReads.j0 k l0 a1 true))) else (some false))) = some r := h
 clear h
 replace H := Option.bind_eq_some_iff.mp H
 obtain ⟨t348, A30, H⟩ := H
 replace H : (if t348 = true then ((hopmeshlaw14_few.f l0).bind fun t349 => (if t349 = true then (hopmeshlaw14_CompressReads.j0 k l0 a1 (decide ((a1.size : Int) > 100))) else (hopmeshlaw14_CompressReads.j0 k l0 a1 true))) else (some false)) = some r := H
 have A3 := Aside0.mk A30
 clear A30
 by_cases c4 : t348 = true
 ·
  subst c4
  have H1 : ((hopmeshlaw14_few.f l0).bind fun t349 => (if t349 = true then (hopmeshlaw14_CompressReads.j0 k l0 a1 (decide ((a1.size : Int) > 100))) else (hopmeshlaw14_CompressReads.j0 k l0 a1 true))) = some r := by rw [if_pos rfl] at H; exact H
  clear H
  have H := H1
  clear H1
  have HC5 := Aside0.mk H
  clear H
  go_enter Try.func6, Try.ntmps6
  go_upto_region 3 with (first | ((with_reducible refine gate_callee (f := 10) rfl ?_); refine goesL_ (some 11) rfl rfl Try.func10 (by kernel_rfl) rfl #[] rfl am_ ?_; (with_reducible refine (hopmeshlaw14_awake.calls k  true _ A3.out).mono ?_); rintro e w6 ⟨rfl, hb⟩; refine ⟨_, rfl, ?_⟩; have n0_ := Aside0.mk (below_step hb_ hb); clear HB; have HB := n0_; clear n0_; (try clear hb); (try clear hb2); (try clear hk); (try clear hi)))
  (try simp only [Act.put, List.setIfInBounds_toArray, List.set_cons_zero, List.set_cons_succ])
  go_cut [20] (fun v20 wc => ∃ (kq : Nat) (x20_4 : Bool), v20 = .bool x20_4 ∧ Aside0 (hopmeshlaw14_CompressReads.j0 kq l0 a1 x20_4 = some r) ∧ Aside0 (kq ≤ k) ∧ Aside0 (Below w.heap.size w wc))
  case first =>
   have H := HC5.out
   clear HC5
   replace H := Option.bind_eq_some_iff.mp H
   obtain ⟨t349, A70, H⟩ := H
   replace H : (if t349 = true then (hopmeshlaw14_CompressReads.j0 k l0 a1 (decide ((a1.size : Int) > 100))) else (hopmeshlaw14_CompressReads.j0 k l0 a1 true)) = some r := H
   have A7 := Aside0.mk A70
   clear A70
   by_cases c8 : t349 = true
   ·
    subst c8
    have H1 : (hopmeshlaw14_CompressReads.j0 k l0 a1 (decide ((a1.size : Int) > 100))) = some r := by rw [if_pos rfl] at H; exact H
    clear H
    have H := H1
    clear H1
    have H' := Aside0.mk H
    clear H
    go_wp2_with (first | ((with_reducible refine gate_callee (f := 11) rfl ?_); refine goesL_ (some 14) rfl rfl Try.func11 (by kernel_rfl) rfl #[.slice A0 l0.length c0] rfl am_ ?_; (with_reducible refine (hopmeshlaw14_few.calls _ _ l0 true _ ?side1 ?side2 A7.out).mono ?_); (case side1 => repeat (first | exact (Kd.C_below HR0.out HB.out) | (with_reducible refine Kd.C_alloc ?_ _) | (with_reducible refine Kd.C_drewN ?_ _) | (with_reducible refine Kd.C_drew ?_))); (case side2 => exact HC0.out); rintro e w9 ⟨rfl, hb⟩; refine ⟨_, rfl, ?_⟩; have n0_ := Aside0.mk (below_step hb_ hb); clear HB; have HB := n0_; clear n0_; (try clear hb); (try clear hb2); (try clear hk); (try clear hi)))
    go_meet
    case rel => exact ⟨_, (decide ((a1.size : Int) > 100)), rl_, H', ⟨by first | omega | exact Nat.le_refl _⟩, ⟨hb_⟩⟩
   ·
    replace c8 := Bool.eq_false_iff.mpr c8
    subst c8
    have H1 : (hopmeshlaw14_CompressReads.j0 k l0 a1 true) = some r := by rw [if_neg (show ¬ (false = true) by decide)] at H; exact H
    clear H
    have H := H1
    clear H1
    have H' := Aside0.mk H
    clear H
    go_wp2_with (first | ((with_reducible refine gate_callee (f := 11) rfl ?_); refine goesL_ (some 14) rfl rfl Try.func11 (by kernel_rfl) rfl #[.slice A0 l0.length c0] rfl am_ ?_; (with_reducible refine (hopmeshlaw14_few.calls _ _ l0 false _ ?side1 ?side2 A7.out).mono ?_); (case side1 => repeat (first | exact (Kd.C_below HR0.out HB.out) | (with_reducible refine Kd.C_alloc ?_ _) | (with_reducible refine Kd.C_drewN ?_ _) | (with_reducible refine Kd.C_drew ?_))); (case side2 => exact HC0.out); rintro e w10 ⟨rfl, hb⟩; refine ⟨_, rfl, ?_⟩; have n0_ := Aside0.mk (below_step hb_ hb); clear HB; have HB := n0_; clear n0_; (try clear hb); (try clear hb2); (try clear hk); (try clear hi)))
    go_meet
    case rel => exact ⟨_, (true), rl_, H', ⟨by first | omega | exact Nat.le_refl _⟩, ⟨hb_⟩⟩
  case rest =>
   clear HC5
   try clear c1; try clear p2; try clear c4; try clear c6; try clear c8; try clear c10
   (repeat clear HB)
   obtain ⟨kq, x20_4, rfl, HA, HJ4, HB⟩ := hcut
   cases kq with
   | zero => exact absurd HA.out (by simp [hopmeshlaw14_CompressReads.j0])
   | succ kj4 =>
    have H := HA.out
    clear HA
    simp only [hopmeshlaw14_CompressReads.j0] at H
    by_cases c11 : x20_4 = true
    ·
     subst c11
     have H1 : (some true) = some r := by rw [if_pos rfl] at H; exact H
     clear H
     have H := H1
     clear H1
     obtain rfl := Option.some.inj H
     go_wp2
     go_ret
     exact ⟨er_, hb_⟩
    ·
     replace c11 := Bool.eq_false_iff.mpr c11
     subst c11
     have H1 : ((api_Context.f l0).bind fun t350 => ((compress_Expand.f t350 a1).bind fun bt353 => ((hopmeshref14_Expand.f kj4 l0 a1).bind fun bt363 => (if (bt353.1 == bt363.1 && (bt353.2.1 == bt363.2.1 && (bt353.2.2.1.toList == bt363.2.2.1.toList && (bt353.2.2.2.1.toList == bt363.2.2.2.1.toList && (bt353.2.2.2.2.1 == bt363.2.2.2.2.1 && (bt353.2.2.2.2.2.1 == bt363.2.2.2.2.2.1 && (bt353.2.2.2.2.2.2.1 == bt363.2.2.2.2.2.2.1))))))) = true then (if bt353.2.2.2.2.2.2.2.1.toList = bt363.2.2.2.2.2.2.2.1.toList then (some (bt353.2.2.2.2.2.2.2.2 == bt363.2.2.2.2.2.2.2.2)) else (some false)) else (some false))))) = some r := by rw [if_neg (show ¬ (false = true) by decide)] at H; exact H
     clear H
     have H := H1
     clear H1
     replace H := Option.bind_eq_some_iff.mp H
     obtain ⟨t350, A120, H⟩ := H
     replace H : ((compress_Expand.f t350 a1).bind fun bt353 => ((hopmeshref14_Expand.f kj4 l0 a1).bind fun bt363 => (if (bt353.1 == bt363.1 && (bt353.2.1 == bt363.2.1 && (bt353.2.2.1.toList == bt363.2.2.1.toList && (bt353.2.2.2.1.toList == bt363.2.2.2.1.toList && (bt353.2.2.2.2.1 == bt363.2.2.2.2.1 && (bt353.2.2.2.2.2.1 == bt363.2.2.2.2.2.1 && (bt353.2.2.2.2.2.2.1 == bt363.2.2.2.2.2.2.1))))))) = true then (if bt353.2.2.2.2.2.2.2.1.toList = bt363.2.2.2.2.2.2.2.1.toList then (some (bt353.2.2.2.2.2.2.2.2 == bt363.2.2.2.2.2.2.2.2)) else (some false)) else (some false)))) = some r := H
     have A12 := Aside0.mk A120
     clear A120
     replace H := Option.bind_eq_some_iff.mp H
     obtain ⟨⟨t353, t354, t355, t356, t357, t358, t359, t360, t361⟩, A130, H⟩ := H
     replace H : ((hopmeshref14_Expand.f kj4 l0 a1).bind fun bt363 => (if (t353 == bt363.1 && (t354 == bt363.2.1 && (t355.toList == bt363.2.2.1.toList && (t356.toList == bt363.2.2.2.1.toList && (t357 == bt363.2.2.2.2.1 && (t358 == bt363.2.2.2.2.2.1 && (t359 == bt363.2.2.2.2.2.2.1))))))) = true then (if t360.toList = bt363.2.2.2.2.2.2.2.1.toList then (some (t361 == bt363.2.2.2.2.2.2.2.2)) else (some false)) else (some false))) = some r := H
     have A13 := Aside0.mk A130
     clear A130
     replace H := Option.bind_eq_some_iff.mp H
     obtain ⟨⟨t363, t364, t365, t366, t367, t368, t369, t370, t371⟩, A140, H⟩ := H
     replace H : (if (t353 == t363 && (t354 == t364 && (t355.toList == t365.toList && (t356.toList == t366.toList && (t357 == t367 && (t358 == t368 && (t359 == t369))))))) = true then (if t360.toList = t370.toList then (some (t361 == t371)) else (some false)) else (some false)) = some r := H
     have A14 := Aside0.mk A140
     clear A140
     by_cases c15 : (t353 == t363 && (t354 == t364 && (t355.toList == t365.toList && (t356.toList == t366.toList && (t357 == t367 && (t358 == t368 && (t359 == t369))))))) = true
     ·
      rw [if_pos c15] at H
      have c15b0 : (t353 == t363 && (t354 == t364 && (t355.toList == t365.toList && (t356.toList == t366.toList && (t357 == t367 && (t358 == t368 && (t359 == t369))))))) = true := c15
      (try (have c15b1 : decide (t353 = t363 && (t354 == t364 && (t355.toList == t365.toList && (t356.toList == t366.toList && (t357 == t367 && (t358 == t368 && (t359 == t369))))))) = true := by simpa using c15))
      (try (have c15b2 : (t353 == t363 && (t354 == t364 && (t355.toList == t365.toList && (t356.toList == t366.toList && (t357 == t367 && (t358 == t368 && (t359 == t369))))))) = true := by simpa using c15))
      clear c15
      by_cases c16 : t360.toList = t370.toList
      ·
       rw [if_pos c16] at H
       have c16b0 : (t360.toList == t370.toList) = true := beq_iff_eq.mpr c16
       have c16b1 : (t360.toList != t370.toList) = false := bne_eq_false_iff_eq.mpr c16
       clear c16
       obtain rfl := Option.some.inj H
       go_wp2_with (first | ((with_reducible refine gate_callee (f := 14) rfl ?_); refine goesL_ (some 23) rfl rfl Try.func14 (by kernel_rfl) rfl #[.slice A0 l0.length c0] rfl am_ ?_; (with_reducible refine (api_Context.calls _ _ l0 t350 _ ?side1 ?side2 A12.out).mono ?_); (case side1 => repeat (first | exact (Kd.C_below HR0.out HB.out) | (with_reducible refine Kd.C_alloc ?_ _) | (with_reducible refine Kd.C_drewN ?_ _) | (with_reducible refine Kd.C_drew ?_))); (case side2 => exact HC0.out); rintro e w17 ⟨v351, rfl, ho0, hb⟩; refine ⟨_, rfl, ?_⟩; have n0_ := Aside0.mk (Kd.R_lower ho0 (below_size hb_)); have n1_ := Aside0.mk (below_step hb_ hb); clear HB; have HO352 := n0_; have HB := n1_; clear n0_ n1_; (try clear hb); (try clear hb2); (try clear hk); (try clear hi); (try clear ho0); obtain ⟨Ao18, co18, eo18⟩ := Kd.R_slice HO352.out; subst eo18) | ((with_reducible refine gate_callee (f := 24) rfl ?_); refine goesL_ (some 25) rfl rfl Try.func24 (by kernel_rfl) rfl #[.slice Ao18 t350.length co18, .string a1] rfl am_ ?_; (with_reducible refine (compress_Expand.calls _ _ t350 a1 t353 t354 t355 t356 t357 t358 t359 t360 t361 _ ?side1 ?side2 A13.out).mono ?_); (case side1 => repeat (first | exact (Kd.R_reads' HO352.out).2.2 | (with_reducible refine Kd.C_alloc ?_ _) | (with_reducible refine Kd.C_drewN ?_ _) | (with_reducible refine Kd.C_drew ?_))); (case side2 => exact (Kd.R_reads' HO352.out).2.1); rintro e w19 ⟨rfl, hb⟩; refine ⟨_, rfl, ?_⟩; have n0_ := Aside0.mk (Kd.R_below (kr_ HO352) hb); have n1_ := Aside0.mk (below_step hb_ hb); clear HO352; clear HB; have HO352 := n0_; have HB := n1_; clear n0_ n1_; (try clear hb); (try clear hb2); (try clear hk); (try clear hi)) | ((with_reducible refine gate_dst (N := 5) rfl ?_); refine bx_ 5 #[.int .i64 0, .int .i64 0, .string (⟨#[]⟩ : ByteArray), .string (⟨#[]⟩ : ByteArray), .int .i64 0, .int .i64 0, .int .i64 0] 24 ?_; intro gb362 hg w20 hbox hb; have n0_ := Aside0.mk (Kd.R_below (kr_ HO352) hb); have n1_ := Aside0.mk (below_step hb_ hb); have n2_ := Aside0.mk (hbox); have n3_ := Aside0.mk ((by rw [hg]; exact (below_size hb_) : w.heap.size ≤ gb362)); have n4_ := Aside0.mk ((by rw [hg]; exact (below_size hb_) : w.heap.size ≤ gb362)); clear HO352; clear HB; have HO352 := n0_; have HB := n1_; have BK362 := n2_; have GW362 := n3_; have GE362 := n4_; clear n0_ n1_ n2_ n3_ n4_; clear hb hbox hg; have hcz21_0 := bc0 BK362; have hcz21_1 := bc1 BK362; have hcz21_2 := bc2 BK362; have hcz21_3 := bc3 BK362; have hcz21_4 := bc4 BK362; have hcz21_5 := bc5 BK362; have hcz21_6 := bc6 BK362; have hfz21_0 := blk_frozen BK362.out 0; have hfz21_1 := blk_frozen BK362.out 1; have hfz21_2 := blk_frozen BK362.out 2; have hfz21_3 := blk_frozen BK362.out 3; have hfz21_4 := blk_frozen BK362.out 4; have hfz21_5 := blk_frozen BK362.out 5; have hfz21_6 := blk_frozen BK362.out 6) | ((with_reducible refine gate_callee (f := 25) rfl ?_); refine goesL_ (some 32) rfl rfl Try.func25 (by kernel_rfl) rfl #[.slice A0 l0.length c0, .string a1] rfl am_ ?_; (with_reducible refine (hopmeshref14_Expand.calls kj4 _ _ l0 a1 t363 t364 t365 t366 t367 t368 t369 t370 t371 _ ?side1 ?side2 A14.out).mono ?_); (case side1 => exact Kd.C_below HR0.out hb_); (case side2 => exact HC0.out); rintro e w22 ⟨rfl, hb⟩; refine ⟨_, rfl, ?_⟩; have n0_ := Aside0.mk (Kd.R_below (by (with_reducible repeat (first | apply Kd.R_alloc | apply Kd.R_drewN | apply Kd.R_drew)); exact (Kd.R_mono (Kd.R_far (p := ⟨gb362, 6, none⟩) (Kd.R_far (p := ⟨gb362, 5, none⟩) (Kd.R_far (p := ⟨gb362, 4, none⟩) (Kd.R_far (p := ⟨gb362, 3, none⟩) (Kd.R_far (p := ⟨gb362, 2, none⟩) (Kd.R_far (p := ⟨gb362, 1, none⟩) (Kd.R_far (p := ⟨gb362, 0, none⟩) (Kd.R_types HO352.out BK362.out (by decide)) (fun _ hk => hk.2) (.int .i64 t353)) (fun _ hk => hk.2) (.int .i64 t354)) (fun _ hk => hk.2) (.string t355)) (fun _ hk => hk.2) (.string t356)) (fun _ hk => hk.2) (.int .i64 t357)) (fun _ hk => hk.2) (.int .i64 t358)) (fun _ hk => hk.2) (.int .i64 t359)) (fun _ h_ => h_.1))) hb); have n1_ := Aside0.mk (blk_below (g := gb362) (o := .cells #[.int .i64 t353, .int .i64 t354, .string t355, .string t356, .int .i64 t357, .int .i64 t358, .int .i64 t359] 24 (0, 0)) (by (with_reducible repeat (first | refine blk_drewN ?_ _ | refine blk_drew ?_ | refine blk_alloc ?_ _)); refine blk_put (cs := #[.int .i64 t353, .int .i64 t354, .string t355, .string t356, .int .i64 t357, .int .i64 t358, .int .i64 0]) ?_ 6 _ rfl; (with_reducible repeat (first | refine blk_drewN ?_ _ | refine blk_drew ?_ | refine blk_alloc ?_ _)); refine blk_put (cs := #[.int .i64 t353, .int .i64 t354, .string t355, .string t356, .int .i64 t357, .int .i64 0, .int .i64 0]) ?_ 5 _ rfl; (with_reducible repeat (first | refine blk_drewN ?_ _ | refine blk_drew ?_ | refine blk_alloc ?_ _)); refine blk_put (cs := #[.int .i64 t353, .int .i64 t354, .string t355, .string t356, .int .i64 0, .int .i64 0, .int .i64 0]) ?_ 4 _ rfl; (with_reducible repeat (first | refine blk_drewN ?_ _ | refine blk_drew ?_ | refine blk_alloc ?_ _)); refine blk_put (cs := #[.int .i64 t353, .int .i64 t354, .string t355, .string (⟨#[]⟩ : ByteArray), .int .i64 0, .int .i64 0, .int .i64 0]) ?_ 3 _ rfl; (with_reducible repeat (first | refine blk_drewN ?_ _ | refine blk_drew ?_ | refine blk_alloc ?_ _)); refine blk_put (cs := #[.int .i64 t353, .int .i64 t354, .string (⟨#[]⟩ : ByteArray), .string (⟨#[]⟩ : ByteArray), .int .i64 0, .int .i64 0, .int .i64 0]) ?_ 2 _ rfl; (with_reducible repeat (first | refine blk_drewN ?_ _ | refine blk_drew ?_ | refine blk_alloc ?_ _)); refine blk_put (cs := #[.int .i64 t353, .int .i64 0, .string (⟨#[]⟩ : ByteArray), .string (⟨#[]⟩ : ByteArray), .int .i64 0, .int .i64 0, .int .i64 0]) ?_ 1 _ rfl; (with_reducible repeat (first | refine blk_drewN ?_ _ | refine blk_drew ?_ | refine blk_alloc ?_ _)); refine blk_put (cs := #[.int .i64 0, .int .i64 0, .string (⟨#[]⟩ : ByteArray), .string (⟨#[]⟩ : ByteArray), .int .i64 0, .int .i64 0, .int .i64 0]) ?_ 0 _ rfl; (with_reducible repeat (first | refine blk_drewN ?_ _ | refine blk_drew ?_ | refine blk_alloc ?_ _)); exact BK362.out) hb); have n2_ := Aside0.mk (below_step hb_ hb); clear HO352; clear BK362; clear HB; have HO352 := n0_; have BK362 := n1_; have HB := n2_; clear n0_ n1_ n2_; (try clear hb); (try clear hb2); (try clear hk); (try clear hi)) | ((with_reducible refine gate_dst (N := 8) rfl ?_); refine bx_ 8 #[.int .i64 0, .int .i64 0, .string (⟨#[]⟩ : ByteArray), .string (⟨#[]⟩ : ByteArray), .int .i64 0, .int .i64 0, .int .i64 0] 24 ?_; intro gb372 hg w23 hbox hb; have n0_ := Aside0.mk (Kd.R_below (kr_ HO352) hb); have n1_ := bk_ BK362 hb; have n2_ := Aside0.mk (below_step hb_ hb); have n3_ := Aside0.mk (hbox); have n4_ := Aside0.mk ((by rw [hg]; exact (below_size hb_) : w.heap.size ≤ gb372)); have n5_ := Aside0.mk ((by rw [hg]; exact (below_size hb_) : w.heap.size ≤ gb372)); have n6_ := Aside0.mk ((by rw [hg]; exact Nat.ne_of_lt (blk_lt (bj_ BK362)) : gb362 ≠ gb372)); have n7_ := Aside0.mk ((by rw [hg]; exact Nat.ne_of_gt (blk_lt (bj_ BK362)) : gb372 ≠ gb362)); clear HO352; clear BK362; clear HB; have HO352 := n0_; have BK362 := n1_; have HB := n2_; have BK372 := n3_; have GW372 := n4_; have GE372 := n5_; have NB362_372 := n6_; have NB372_362 := n7_; clear n0_ n1_ n2_ n3_ n4_ n5_ n6_ n7_; clear hb hbox hg; have hnb24 := NB372_362.out; have hnc24 := NB362_372.out; have hcz25_0 := bc0 BK372; have hcz25_1 := bc1 BK372; have hcz25_2 := bc2 BK372; have hcz25_3 := bc3 BK372; have hcz25_4 := bc4 BK372; have hcz25_5 := bc5 BK372; have hcz25_6 := bc6 BK372; have hfz25_0 := blk_frozen BK372.out 0; have hfz25_1 := blk_frozen BK372.out 1; have hfz25_2 := blk_frozen BK372.out 2; have hfz25_3 := blk_frozen BK372.out 3; have hfz25_4 := blk_frozen BK372.out 4; have hfz25_5 := blk_frozen BK372.out 5; have hfz25_6 := blk_frozen BK372.out 6; have hcz26_0 := bc0 BK362; have hcz26_1 := bc1 BK362; have hcz26_2 := bc2 BK362; have hcz26_3 := bc3 BK362; have hcz26_4 := bc4 BK362; have hcz26_5 := bc5 BK362; have hcz26_6 := bc6 BK362; have hfz26_0 := blk_frozen BK362.out 0; have hfz26_1 := blk_frozen BK362.out 1; have hfz26_2 := blk_frozen BK362.out 2; have hfz26_3 := blk_frozen BK362.out 3; have hfz26_4 := blk_frozen BK362.out 4; have hfz26_5 := blk_frozen BK362.out 5; have hfz26_6 := blk_frozen BK362.out 6))
       go_ret
       exact ⟨er_, hb_⟩
      ·
       rw [if_neg c16] at H
       have c16b0 : (t360.toList == t370.toList) = false := beq_eq_false_iff_ne.mpr c16
       have c16b1 : (t360.toList != t370.toList) = true := bne_iff_ne.mpr c16
       obtain rfl := Option.some.inj H
       go_wp2_with (first | ((with_reducible refine gate_callee (f := 14) rfl ?_); refine goesL_ (some 23) rfl rfl Try.func14 (by kernel_rfl) rfl #[.slice A0 l0.length c0] rfl am_ ?_; (with_reducible refine (api_Context.calls _ _ l0 t350 _ ?side1 ?side2 A12.out).mono ?_); (case side1 => repeat (first | exact (Kd.C_below HR0.out HB.out) | (with_reducible refine Kd.C_alloc ?_ _) | (with_reducible refine Kd.C_drewN ?_ _) | (with_reducible refine Kd.C_drew ?_))); (case side2 => exact HC0.out); rintro e w27 ⟨v351, rfl, ho0, hb⟩; refine ⟨_, rfl, ?_⟩; have n0_ := Aside0.mk (Kd.R_lower ho0 (below_size hb_)); have n1_ := Aside0.mk (below_step hb_ hb); clear HB; have HO352 := n0_; have HB := n1_; clear n0_ n1_; (try clear hb); (try clear hb2); (try clear hk); (try clear hi); (try clear ho0); obtain ⟨Ao28, co28, eo28⟩ := Kd.R_slice HO352.out; subst eo28) | ((with_reducible refine gate_callee (f := 24) rfl ?_); refine goesL_ (some 25) rfl rfl Try.func24 (by kernel_rfl) rfl #[.slice Ao28 t350.length co28, .string a1] rfl am_ ?_; (with_reducible refine (compress_Expand.calls _ _ t350 a1 t353 t354 t355 t356 t357 t358 t359 t360 t361 _ ?side1 ?side2 A13.out).mono ?_); (case side1 => repeat (first | exact (Kd.R_reads' HO352.out).2.2 | (with_reducible refine Kd.C_alloc ?_ _) | (with_reducible refine Kd.C_drewN ?_ _) | (with_reducible refine Kd.C_drew ?_))); (case side2 => exact (Kd.R_reads' HO352.out).2.1); rintro e w29 ⟨rfl, hb⟩; refine ⟨_, rfl, ?_⟩; have n0_ := Aside0.mk (Kd.R_below (kr_ HO352) hb); have n1_ := Aside0.mk (below_step hb_ hb); clear HO352; clear HB; have HO352 := n0_; have HB := n1_; clear n0_ n1_; (try clear hb); (try clear hb2); (try clear hk); (try clear hi)) | ((with_reducible refine gate_dst (N := 5) rfl ?_); refine bx_ 5 #[.int .i64 0, .int .i64 0, .string (⟨#[]⟩ : ByteArray), .string (⟨#[]⟩ : ByteArray), .int .i64 0, .int .i64 0, .int .i64 0] 24 ?_; intro gb362 hg w30 hbox hb; have n0_ := Aside0.mk (Kd.R_below (kr_ HO352) hb); have n1_ := Aside0.mk (below_step hb_ hb); have n2_ := Aside0.mk (hbox); have n3_ := Aside0.mk ((by rw [hg]; exact (below_size hb_) : w.heap.size ≤ gb362)); have n4_ := Aside0.mk ((by rw [hg]; exact (below_size hb_) : w.heap.size ≤ gb362)); clear HO352; clear HB; have HO352 := n0_; have HB := n1_; have BK362 := n2_; have GW362 := n3_; have GE362 := n4_; clear n0_ n1_ n2_ n3_ n4_; clear hb hbox hg; have hcz31_0 := bc0 BK362; have hcz31_1 := bc1 BK362; have hcz31_2 := bc2 BK362; have hcz31_3 := bc3 BK362; have hcz31_4 := bc4 BK362; have hcz31_5 := bc5 BK362; have hcz31_6 := bc6 BK362; have hfz31_0 := blk_frozen BK362.out 0; have hfz31_1 := blk_frozen BK362.out 1; have hfz31_2 := blk_frozen BK362.out 2; have hfz31_3 := blk_frozen BK362.out 3; have hfz31_4 := blk_frozen BK362.out 4; have hfz31_5 := blk_frozen BK362.out 5; have hfz31_6 := blk_frozen BK362.out 6) | ((with_reducible refine gate_callee (f := 25) rfl ?_); refine goesL_ (some 32) rfl rfl Try.func25 (by kernel_rfl) rfl #[.slice A0 l0.length c0, .string a1] rfl am_ ?_; (with_reducible refine (hopmeshref14_Expand.calls kj4 _ _ l0 a1 t363 t364 t365 t366 t367 t368 t369 t370 t371 _ ?side1 ?side2 A14.out).mono ?_); (case side1 => exact Kd.C_below HR0.out hb_); (case side2 => exact HC0.out); rintro e w32 ⟨rfl, hb⟩; refine ⟨_, rfl, ?_⟩; have n0_ := Aside0.mk (Kd.R_below (by (with_reducible repeat (first | apply Kd.R_alloc | apply Kd.R_drewN | apply Kd.R_drew)); exact (Kd.R_mono (Kd.R_far (p := ⟨gb362, 6, none⟩) (Kd.R_far (p := ⟨gb362, 5, none⟩) (Kd.R_far (p := ⟨gb362, 4, none⟩) (Kd.R_far (p := ⟨gb362, 3, none⟩) (Kd.R_far (p := ⟨gb362, 2, none⟩) (Kd.R_far (p := ⟨gb362, 1, none⟩) (Kd.R_far (p := ⟨gb362, 0, none⟩) (Kd.R_types HO352.out BK362.out (by decide)) (fun _ hk => hk.2) (.int .i64 t353)) (fun _ hk => hk.2) (.int .i64 t354)) (fun _ hk => hk.2) (.string t355)) (fun _ hk => hk.2) (.string t356)) (fun _ hk => hk.2) (.int .i64 t357)) (fun _ hk => hk.2) (.int .i64 t358)) (fun _ hk => hk.2) (.int .i64 t359)) (fun _ h_ => h_.1))) hb); have n1_ := Aside0.mk (blk_below (g := gb362) (o := .cells #[.int .i64 t353, .int .i64 t354, .string t355, .string t356, .int .i64 t357, .int .i64 t358, .int .i64 t359] 24 (0, 0)) (by (with_reducible repeat (first | refine blk_drewN ?_ _ | refine blk_drew ?_ | refine blk_alloc ?_ _)); refine blk_put (cs := #[.int .i64 t353, .int .i64 t354, .string t355, .string t356, .int .i64 t357, .int .i64 t358, .int .i64 0]) ?_ 6 _ rfl; (with_reducible repeat (first | refine blk_drewN ?_ _ | refine blk_drew ?_ | refine blk_alloc ?_ _)); refine blk_put (cs := #[.int .i64 t353, .int .i64 t354, .string t355, .string t356, .int .i64 t357, .int .i64 0, .int .i64 0]) ?_ 5 _ rfl; (with_reducible repeat (first | refine blk_drewN ?_ _ | refine blk_drew ?_ | refine blk_alloc ?_ _)); refine blk_put (cs := #[.int .i64 t353, .int .i64 t354, .string t355, .string t356, .int .i64 0, .int .i64 0, .int .i64 0]) ?_ 4 _ rfl; (with_reducible repeat (first | refine blk_drewN ?_ _ | refine blk_drew ?_ | refine blk_alloc ?_ _)); refine blk_put (cs := #[.int .i64 t353, .int .i64 t354, .string t355, .string (⟨#[]⟩ : ByteArray), .int .i64 0, .int .i64 0, .int .i64 0]) ?_ 3 _ rfl; (with_reducible repeat (first | refine blk_drewN ?_ _ | refine blk_drew ?_ | refine blk_alloc ?_ _)); refine blk_put (cs := #[.int .i64 t353, .int .i64 t354, .string (⟨#[]⟩ : ByteArray), .string (⟨#[]⟩ : ByteArray), .int .i64 0, .int .i64 0, .int .i64 0]) ?_ 2 _ rfl; (with_reducible repeat (first | refine blk_drewN ?_ _ | refine blk_drew ?_ | refine blk_alloc ?_ _)); refine blk_put (cs := #[.int .i64 t353, .int .i64 0, .string (⟨#[]⟩ : ByteArray), .string (⟨#[]⟩ : ByteArray), .int .i64 0, .int .i64 0, .int .i64 0]) ?_ 1 _ rfl; (with_reducible repeat (first | refine blk_drewN ?_ _ | refine blk_drew ?_ | refine blk_alloc ?_ _)); refine blk_put (cs := #[.int .i64 0, .int .i64 0, .string (⟨#[]⟩ : ByteArray), .string (⟨#[]⟩ : ByteArray), .int .i64 0, .int .i64 0, .int .i64 0]) ?_ 0 _ rfl; (with_reducible repeat (first | refine blk_drewN ?_ _ | refine blk_drew ?_ | refine blk_alloc ?_ _)); exact BK362.out) hb); have n2_ := Aside0.mk (below_step hb_ hb); clear HO352; clear BK362; clear HB; have HO352 := n0_; have BK362 := n1_; have HB := n2_; clear n0_ n1_ n2_; (try clear hb); (try clear hb2); (try clear hk); (try clear hi)) | ((with_reducible refine gate_dst (N := 8) rfl ?_); refine bx_ 8 #[.int .i64 0, .int .i64 0, .string (⟨#[]⟩ : ByteArray), .string (⟨#[]⟩ : ByteArray), .int .i64 0, .int .i64 0, .int .i64 0] 24 ?_; intro gb372 hg w33 hbox hb; have n0_ := Aside0.mk (Kd.R_below (kr_ HO352) hb); have n1_ := bk_ BK362 hb; have n2_ := Aside0.mk (below_step hb_ hb); have n3_ := Aside0.mk (hbox); have n4_ := Aside0.mk ((by rw [hg]; exact (below_size hb_) : w.heap.size ≤ gb372)); have n5_ := Aside0.mk ((by rw [hg]; exact (below_size hb_) : w.heap.size ≤ gb372)); have n6_ := Aside0.mk ((by rw [hg]; exact Nat.ne_of_lt (blk_lt (bj_ BK362)) : gb362 ≠ gb372)); have n7_ := Aside0.mk ((by rw [hg]; exact Nat.ne_of_gt (blk_lt (bj_ BK362)) : gb372 ≠ gb362)); clear HO352; clear BK362; clear HB; have HO352 := n0_; have BK362 := n1_; have HB := n2_; have BK372 := n3_; have GW372 := n4_; have GE372 := n5_; have NB362_372 := n6_; have NB372_362 := n7_; clear n0_ n1_ n2_ n3_ n4_ n5_ n6_ n7_; clear hb hbox hg; have hnb34 := NB372_362.out; have hnc34 := NB362_372.out; have hcz35_0 := bc0 BK372; have hcz35_1 := bc1 BK372; have hcz35_2 := bc2 BK372; have hcz35_3 := bc3 BK372; have hcz35_4 := bc4 BK372; have hcz35_5 := bc5 BK372; have hcz35_6 := bc6 BK372; have hfz35_0 := blk_frozen BK372.out 0; have hfz35_1 := blk_frozen BK372.out 1; have hfz35_2 := blk_frozen BK372.out 2; have hfz35_3 := blk_frozen BK372.out 3; have hfz35_4 := blk_frozen BK372.out 4; have hfz35_5 := blk_frozen BK372.out 5; have hfz35_6 := blk_frozen BK372.out 6; have hcz36_0 := bc0 BK362; have hcz36_1 := bc1 BK362; have hcz36_2 := bc2 BK362; have hcz36_3 := bc3 BK362; have hcz36_4 := bc4 BK362; have hcz36_5 := bc5 BK362; have hcz36_6 := bc6 BK362; have hfz36_0 := blk_frozen BK362.out 0; have hfz36_1 := blk_frozen BK362.out 1; have hfz36_2 := blk_frozen BK362.out 2; have hfz36_3 := blk_frozen BK362.out 3; have hfz36_4 := blk_frozen BK362.out 4; have hfz36_5 := blk_frozen BK362.out 5; have hfz36_6 := blk_frozen BK362.out 6))
       go_ret
       exact ⟨er_, hb_⟩
     ·
      rw [if_neg c15] at H
      have c15b0 : (t353 == t363 && (t354 == t364 && (t355.toList == t365.toList && (t356.toList == t366.toList && (t357 == t367 && (t358 == t368 && (t359 == t369))))))) = false := by simpa using c15
      (try (have c15b1 : decide (t353 = t363 && (t354 == t364 && (t355.toList == t365.toList && (t356.toList == t366.toList && (t357 == t367 && (t358 == t368 && (t359 == t369))))))) = false := by simpa using c15))
      (try (have c15b2 : (t353 == t363 && (t354 == t364 && (t355.toList == t365.toList && (t356.toList == t366.toList && (t357 == t367 && (t358 == t368 && (t359 == t369))))))) = false := by simpa using c15))
      (try (have c15b3 : ¬ (t353 = t363 && (t354 == t364 && (t355.toList == t365.toList && (t356.toList == t366.toList && (t357 == t367 && (t358 == t368 && (t359 == t369))))))) := by simpa using c15))
      clear c15
      obtain rfl := Option.some.inj H
      go_wp2_with (first | ((with_reducible refine gate_callee (f := 14) rfl ?_); refine goesL_ (some 23) rfl rfl Try.func14 (by kernel_rfl) rfl #[.slice A0 l0.length c0] rfl am_ ?_; (with_reducible refine (api_Context.calls _ _ l0 t350 _ ?side1 ?side2 A12.out).mono ?_); (case side1 => repeat (first | exact (Kd.C_below HR0.out HB.out) | (with_reducible refine Kd.C_alloc ?_ _) | (with_reducible refine Kd.C_drewN ?_ _) | (with_reducible refine Kd.C_drew ?_))); (case side2 => exact HC0.out); rintro e w37 ⟨v351, rfl, ho0, hb⟩; refine ⟨_, rfl, ?_⟩; have n0_ := Aside0.mk (Kd.R_lower ho0 (below_size hb_)); have n1_ := Aside0.mk (below_step hb_ hb); clear HB; have HO352 := n0_; have HB := n1_; clear n0_ n1_; (try clear hb); (try clear hb2); (try clear hk); (try clear hi); (try clear ho0); obtain ⟨Ao38, co38, eo38⟩ := Kd.R_slice HO352.out; subst eo38) | ((with_reducible refine gate_callee (f := 24) rfl ?_); refine goesL_ (some 25) rfl rfl Try.func24 (by kernel_rfl) rfl #[.slice Ao38 t350.length co38, .string a1] rfl am_ ?_; (with_reducible refine (compress_Expand.calls _ _ t350 a1 t353 t354 t355 t356 t357 t358 t359 t360 t361 _ ?side1 ?side2 A13.out).mono ?_); (case side1 => repeat (first | exact (Kd.R_reads' HO352.out).2.2 | (with_reducible refine Kd.C_alloc ?_ _) | (with_reducible refine Kd.C_drewN ?_ _) | (with_reducible refine Kd.C_drew ?_))); (case side2 => exact (Kd.R_reads' HO352.out).2.1); rintro e w39 ⟨rfl, hb⟩; refine ⟨_, rfl, ?_⟩; have n0_ := Aside0.mk (Kd.R_below (kr_ HO352) hb); have n1_ := Aside0.mk (below_step hb_ hb); clear HO352; clear HB; have HO352 := n0_; have HB := n1_; clear n0_ n1_; (try clear hb); (try clear hb2); (try clear hk); (try clear hi)) | ((with_reducible refine gate_dst (N := 5) rfl ?_); refine bx_ 5 #[.int .i64 0, .int .i64 0, .string (⟨#[]⟩ : ByteArray), .string (⟨#[]⟩ : ByteArray), .int .i64 0, .int .i64 0, .int .i64 0] 24 ?_; intro gb362 hg w40 hbox hb; have n0_ := Aside0.mk (Kd.R_below (kr_ HO352) hb); have n1_ := Aside0.mk (below_step hb_ hb); have n2_ := Aside0.mk (hbox); have n3_ := Aside0.mk ((by rw [hg]; exact (below_size hb_) : w.heap.size ≤ gb362)); have n4_ := Aside0.mk ((by rw [hg]; exact (below_size hb_) : w.heap.size ≤ gb362)); clear HO352; clear HB; have HO352 := n0_; have HB := n1_; have BK362 := n2_; have GW362 := n3_; have GE362 := n4_; clear n0_ n1_ n2_ n3_ n4_; clear hb hbox hg; have hcz41_0 := bc0 BK362; have hcz41_1 := bc1 BK362; have hcz41_2 := bc2 BK362; have hcz41_3 := bc3 BK362; have hcz41_4 := bc4 BK362; have hcz41_5 := bc5 BK362; have hcz41_6 := bc6 BK362; have hfz41_0 := blk_frozen BK362.out 0; have hfz41_1 := blk_frozen BK362.out 1; have hfz41_2 := blk_frozen BK362.out 2; have hfz41_3 := blk_frozen BK362.out 3; have hfz41_4 := blk_frozen BK362.out 4; have hfz41_5 := blk_frozen BK362.out 5; have hfz41_6 := blk_frozen BK362.out 6) | ((with_reducible refine gate_callee (f := 25) rfl ?_); refine goesL_ (some 32) rfl rfl Try.func25 (by kernel_rfl) rfl #[.slice A0 l0.length c0, .string a1] rfl am_ ?_; (with_reducible refine (hopmeshref14_Expand.calls kj4 _ _ l0 a1 t363 t364 t365 t366 t367 t368 t369 t370 t371 _ ?side1 ?side2 A14.out).mono ?_); (case side1 => exact Kd.C_below HR0.out hb_); (case side2 => exact HC0.out); rintro e w42 ⟨rfl, hb⟩; refine ⟨_, rfl, ?_⟩; have n0_ := Aside0.mk (Kd.R_below (by (with_reducible repeat (first | apply Kd.R_alloc | apply Kd.R_drewN | apply Kd.R_drew)); exact (Kd.R_mono (Kd.R_far (p := ⟨gb362, 6, none⟩) (Kd.R_far (p := ⟨gb362, 5, none⟩) (Kd.R_far (p := ⟨gb362, 4, none⟩) (Kd.R_far (p := ⟨gb362, 3, none⟩) (Kd.R_far (p := ⟨gb362, 2, none⟩) (Kd.R_far (p := ⟨gb362, 1, none⟩) (Kd.R_far (p := ⟨gb362, 0, none⟩) (Kd.R_types HO352.out BK362.out (by decide)) (fun _ hk => hk.2) (.int .i64 t353)) (fun _ hk => hk.2) (.int .i64 t354)) (fun _ hk => hk.2) (.string t355)) (fun _ hk => hk.2) (.string t356)) (fun _ hk => hk.2) (.int .i64 t357)) (fun _ hk => hk.2) (.int .i64 t358)) (fun _ hk => hk.2) (.int .i64 t359)) (fun _ h_ => h_.1))) hb); have n1_ := Aside0.mk (blk_below (g := gb362) (o := .cells #[.int .i64 t353, .int .i64 t354, .string t355, .string t356, .int .i64 t357, .int .i64 t358, .int .i64 t359] 24 (0, 0)) (by (with_reducible repeat (first | refine blk_drewN ?_ _ | refine blk_drew ?_ | refine blk_alloc ?_ _)); refine blk_put (cs := #[.int .i64 t353, .int .i64 t354, .string t355, .string t356, .int .i64 t357, .int .i64 t358, .int .i64 0]) ?_ 6 _ rfl; (with_reducible repeat (first | refine blk_drewN ?_ _ | refine blk_drew ?_ | refine blk_alloc ?_ _)); refine blk_put (cs := #[.int .i64 t353, .int .i64 t354, .string t355, .string t356, .int .i64 t357, .int .i64 0, .int .i64 0]) ?_ 5 _ rfl; (with_reducible repeat (first | refine blk_drewN ?_ _ | refine blk_drew ?_ | refine blk_alloc ?_ _)); refine blk_put (cs := #[.int .i64 t353, .int .i64 t354, .string t355, .string t356, .int .i64 0, .int .i64 0, .int .i64 0]) ?_ 4 _ rfl; (with_reducible repeat (first | refine blk_drewN ?_ _ | refine blk_drew ?_ | refine blk_alloc ?_ _)); refine blk_put (cs := #[.int .i64 t353, .int .i64 t354, .string t355, .string (⟨#[]⟩ : ByteArray), .int .i64 0, .int .i64 0, .int .i64 0]) ?_ 3 _ rfl; (with_reducible repeat (first | refine blk_drewN ?_ _ | refine blk_drew ?_ | refine blk_alloc ?_ _)); refine blk_put (cs := #[.int .i64 t353, .int .i64 t354, .string (⟨#[]⟩ : ByteArray), .string (⟨#[]⟩ : ByteArray), .int .i64 0, .int .i64 0, .int .i64 0]) ?_ 2 _ rfl; (with_reducible repeat (first | refine blk_drewN ?_ _ | refine blk_drew ?_ | refine blk_alloc ?_ _)); refine blk_put (cs := #[.int .i64 t353, .int .i64 0, .string (⟨#[]⟩ : ByteArray), .string (⟨#[]⟩ : ByteArray), .int .i64 0, .int .i64 0, .int .i64 0]) ?_ 1 _ rfl; (with_reducible repeat (first | refine blk_drewN ?_ _ | refine blk_drew ?_ | refine blk_alloc ?_ _)); refine blk_put (cs := #[.int .i64 0, .int .i64 0, .string (⟨#[]⟩ : ByteArray), .string (⟨#[]⟩ : ByteArray), .int .i64 0, .int .i64 0, .int .i64 0]) ?_ 0 _ rfl; (with_reducible repeat (first | refine blk_drewN ?_ _ | refine blk_drew ?_ | refine blk_alloc ?_ _)); exact BK362.out) hb); have n2_ := Aside0.mk (below_step hb_ hb); clear HO352; clear BK362; clear HB; have HO352 := n0_; have BK362 := n1_; have HB := n2_; clear n0_ n1_ n2_; (try clear hb); (try clear hb2); (try clear hk); (try clear hi)) | ((with_reducible refine gate_dst (N := 8) rfl ?_); refine bx_ 8 #[.int .i64 0, .int .i64 0, .string (⟨#[]⟩ : ByteArray), .string (⟨#[]⟩ : ByteArray), .int .i64 0, .int .i64 0, .int .i64 0] 24 ?_; intro gb372 hg w43 hbox hb; have n0_ := Aside0.mk (Kd.R_below (kr_ HO352) hb); have n1_ := bk_ BK362 hb; have n2_ := Aside0.mk (below_step hb_ hb); have n3_ := Aside0.mk (hbox); have n4_ := Aside0.mk ((by rw [hg]; exact (below_size hb_) : w.heap.size ≤ gb372)); have n5_ := Aside0.mk ((by rw [hg]; exact (below_size hb_) : w.heap.size ≤ gb372)); have n6_ := Aside0.mk ((by rw [hg]; exact Nat.ne_of_lt (blk_lt (bj_ BK362)) : gb362 ≠ gb372)); have n7_ := Aside0.mk ((by rw [hg]; exact Nat.ne_of_gt (blk_lt (bj_ BK362)) : gb372 ≠ gb362)); clear HO352; clear BK362; clear HB; have HO352 := n0_; have BK362 := n1_; have HB := n2_; have BK372 := n3_; have GW372 := n4_; have GE372 := n5_; have NB362_372 := n6_; have NB372_362 := n7_; clear n0_ n1_ n2_ n3_ n4_ n5_ n6_ n7_; clear hb hbox hg; have hnb44 := NB372_362.out; have hnc44 := NB362_372.out; have hcz45_0 := bc0 BK372; have hcz45_1 := bc1 BK372; have hcz45_2 := bc2 BK372; have hcz45_3 := bc3 BK372; have hcz45_4 := bc4 BK372; have hcz45_5 := bc5 BK372; have hcz45_6 := bc6 BK372; have hfz45_0 := blk_frozen BK372.out 0; have hfz45_1 := blk_frozen BK372.out 1; have hfz45_2 := blk_frozen BK372.out 2; have hfz45_3 := blk_frozen BK372.out 3; have hfz45_4 := blk_frozen BK372.out 4; have hfz45_5 := blk_frozen BK372.out 5; have hfz45_6 := blk_frozen BK372.out 6; have hcz46_0 := bc0 BK362; have hcz46_1 := bc1 BK362; have hcz46_2 := bc2 BK362; have hcz46_3 := bc3 BK362; have hcz46_4 := bc4 BK362; have hcz46_5 := bc5 BK362; have hcz46_6 := bc6 BK362; have hfz46_0 := blk_frozen BK362.out 0; have hfz46_1 := blk_frozen BK362.out 1; have hfz46_2 := blk_frozen BK362.out 2; have hfz46_3 := blk_frozen BK362.out 3; have hfz46_4 := blk_frozen BK362.out 4; have hfz46_5 := blk_frozen BK362.out 5; have hfz46_6 := blk_frozen BK362.out 6))
      go_ret
      exact ⟨er_, hb_⟩
 ·
  replace c4 := Bool.eq_false_iff.mpr c4
  subst c4
  have H1 : (some false) = some r := by rw [if_neg (show ¬ (false = true) by decide)] at H; exact H
  clear H
  have H := H1
  clear H1
  obtain rfl := Option.some.inj H
  go_enter Try.func6, Try.ntmps6
  go_wp2_with (first | ((with_reducible refine gate_callee (f := 10) rfl ?_); refine goesL_ (some 11) rfl rfl Try.func10 (by kernel_rfl) rfl #[] rfl am_ ?_; (with_reducible refine (hopmeshlaw14_awake.calls k  false _ A3.out).mono ?_); rintro e w47 ⟨rfl, hb⟩; refine ⟨_, rfl, ?_⟩; have n0_ := Aside0.mk (below_step hb_ hb); clear HB; have HB := n0_; clear n0_; (try clear hb); (try clear hb2); (try clear hk); (try clear hi)))
  go_ret
  exact ⟨er_, hb_⟩

end Go.Proofs.Ytmbbijhppgkdfaa.P14
