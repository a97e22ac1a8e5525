-- Written by a program of this session (wip/tools) over the kit's print; Lean checks it.
import Derived.Test.YtmbbijhppgkdfaaP140
import Derived.Test.YtmbbijhppgkdfaaP14Aw
import Derived.Test.YtmbbijhppgkdfaaP14Fd
import Derived.Test.YtmbbijhppgkdfaaGclone
import Derived.Test.YtmbbijhppgkdfaaGcon
import Derived.Test.YtmbbijhppgkdfaaGfew
namespace Go.Proofs.Ytmbbijhppgkdfaa.P14
open Go.RowKit Go.Proofs.YtmbbijhppgkdfaaW.PrintWords Go.Proofs.YtmbbijhppgkdfaaW.PrintLast Go.Proofs.YtmbbijhppgkdfaaW.PrintMore
attribute [local go_sem] max2_int min2_int max_two min_two max_three min_three max_four min_four   -- for this text's walks alone
set_option linter.unusedVariables false
set_option linter.unusedSimpArgs false

/-! ### hopmeshlaw14_CompressFinds: function 5 -/
mutual
def hopmeshlaw14_CompressFinds.j0 : Nat → List (S26) → ByteArray → Bool → Option (Bool)
 | 0, _, _, _ => none
 | k + 1, x0, x1, x18 => if x18 = true then (some true) else ((api_Context.f x0).bind fun t193 => ((compress_Find.f k t193 x1).bind fun bt196 => ((api_Context.f x0).bind fun t198 => ((compress_Contexts.f t198).bind fun t201 => (if t201 = 0 then (hopmeshlaw14_CompressFinds.j1 k x0 x1 bt196.1 bt196.2 ((x1.size : Int) != 4)) else (hopmeshlaw14_CompressFinds.j1 k x0 x1 bt196.1 bt196.2 true))))))
def hopmeshlaw14_CompressFinds.j1 : Nat → List (S26) → ByteArray → Int → Bool → Bool → Option (Bool)
 | 0, _, _, _, _, _ => none
 | k + 1, x0, x1, x5, x6, x34 => if x34 = true then (if x5 = 0 then (some (!x6)) else (some false)) else (hopmeshlaw14_CompressFinds.l0 k x0 x1 x5 x6 x0 (x0.length : Int) 0)
def hopmeshlaw14_CompressFinds.l0 : Nat → List (S26) → ByteArray → Int → Bool → List (S26) → Int → Int → Option (Bool)
 | 0, _, _, _, _, _, _, _ => none
 | k + 1, x0, x1, x5, x6, x41, x42, x43 => if x43 < x42 then (if 0 ≤ x43 then (if x43 < (x41.length : Int) then (if (((rd_T26 x41 x43).f0).size : Int) < 1 then (hopmeshlaw14_CompressFinds.j3 k x0 x1 x5 x6 x43 x41 x42 x43 true ((rd_T26 x41 x43).f0)) else (hopmeshlaw14_CompressFinds.j3 k x0 x1 x5 x6 x43 x41 x42 x43 (decide ((((rd_T26 x41 x43).f0).size : Int) > 4)) ((rd_T26 x41 x43).f0))) else (none)) else (none)) else (if x6 = true then (some true) else (some (x5 == 0)))
def hopmeshlaw14_CompressFinds.j3 : Nat → List (S26) → ByteArray → Int → Bool → Int → List (S26) → Int → Int → Bool → ByteArray → Option (Bool)
 | 0, _, _, _, _, _, _, _, _, _, _ => none
 | k + 1, x0, x1, x5, x6, x7, x41, x42, x43, x57, x204000 => if x57 = true then (some false) else (if 0 ≤ (x204000.size : Int) then (if (x204000.size : Int) ≤ (x1.size : Int) then (if (x1.extract 0 ((x204000.size : Int) : Int).toNat).toList = x204000.toList then (if x6 = true then (if x5 < 0 then (hopmeshlaw14_CompressFinds.j4 k x0 x1 x5 x6 x41 x42 x43 true) else (if x5 ≥ (x0.length : Int) then (hopmeshlaw14_CompressFinds.j4 k x0 x1 x5 x6 x41 x42 x43 true) else (if 0 ≤ x5 then (if x5 < (x0.length : Int) then (if (x204000.size : Int) > (((rd_T26 x0 x5).f0).size : Int) then (hopmeshlaw14_CompressFinds.j4 k x0 x1 x5 x6 x41 x42 x43 true) else (if (x204000.size : Int) = (((rd_T26 x0 x5).f0).size : Int) then (hopmeshlaw14_CompressFinds.j4 k x0 x1 x5 x6 x41 x42 x43 (decide (x7 < x5))) else (hopmeshlaw14_CompressFinds.j4 k x0 x1 x5 x6 x41 x42 x43 false))) else (none)) else (none)))) else (hopmeshlaw14_CompressFinds.j4 k x0 x1 x5 x6 x41 x42 x43 true)) else (if x6 = true then (if x7 = x5 then (some false) else (hopmeshlaw14_CompressFinds.l0 k x0 x1 x5 x6 x41 x42 (wrap64 (x43 + 1)))) else (hopmeshlaw14_CompressFinds.l0 k x0 x1 x5 x6 x41 x42 (wrap64 (x43 + 1))))) else (none)) else (none))
def hopmeshlaw14_CompressFinds.j4 : Nat → List (S26) → ByteArray → Int → Bool → List (S26) → Int → Int → Bool → Option (Bool)
 | 0, _, _, _, _, _, _, _, _ => none
 | k + 1, x0, x1, x5, x6, x41, x42, x43, x112 => if x112 = true then (some false) else (hopmeshlaw14_CompressFinds.l0 k x0 x1 x5 x6 x41 x42 (wrap64 (x43 + 1)))
end
def hopmeshlaw14_CompressFinds.f (k : Nat) (l0 : List (S26)) (a1 : ByteArray) : Option (Bool) := (hopmeshlaw14_awake.f k).bind fun t191 => (if t191 = true then ((hopmeshlaw14_few.f l0).bind fun t192 => (if t192 = true then (hopmeshlaw14_CompressFinds.j0 k l0 a1 (decide ((a1.size : Int) > 20))) else (hopmeshlaw14_CompressFinds.j0 k l0 a1 true))) else (some false))
theorem hopmeshlaw14_CompressFinds.mono_l : ∀ k, (∀ y0 y1 y2, LeO (hopmeshlaw14_CompressFinds.j0 k y0 y1 y2) (hopmeshlaw14_CompressFinds.j0 (k + 1) y0 y1 y2)) ∧ (∀ y0 y1 y2 y3 y4, LeO (hopmeshlaw14_CompressFinds.j1 k y0 y1 y2 y3 y4) (hopmeshlaw14_CompressFinds.j1 (k + 1) y0 y1 y2 y3 y4)) ∧ (∀ y0 y1 y2 y3 y4 y5 y6, LeO (hopmeshlaw14_CompressFinds.l0 k y0 y1 y2 y3 y4 y5 y6) (hopmeshlaw14_CompressFinds.l0 (k + 1) y0 y1 y2 y3 y4 y5 y6)) ∧ (∀ y0 y1 y2 y3 y4 y5 y6 y7 y8 y9, LeO (hopmeshlaw14_CompressFinds.j3 k y0 y1 y2 y3 y4 y5 y6 y7 y8 y9) (hopmeshlaw14_CompressFinds.j3 (k + 1) y0 y1 y2 y3 y4 y5 y6 y7 y8 y9)) ∧ (∀ y0 y1 y2 y3 y4 y5 y6 y7, LeO (hopmeshlaw14_CompressFinds.j4 k y0 y1 y2 y3 y4 y5 y6 y7) (hopmeshlaw14_CompressFinds.j4 (k + 1) y0 y1 y2 y3 y4 y5 y6 y7))
 | 0 => ⟨fun _ _ _ r h => by simp [hopmeshlaw14_CompressFinds.j0] at h, fun _ _ _ _ _ r h => by simp [hopmeshlaw14_CompressFinds.j1] at h, fun _ _ _ _ _ _ _ r h => by simp [hopmeshlaw14_CompressFinds.l0] at h, fun _ _ _ _ _ _ _ _ _ _ r h => by simp [hopmeshlaw14_CompressFinds.j3] at h, fun _ _ _ _ _ _ _ _ r h => by simp [hopmeshlaw14_CompressFinds.j4] at h⟩
 | k + 1 => by
  obtain ⟨ih0, ih1, ih2, ih3, ih4⟩ := hopmeshlaw14_CompressFinds.mono_l k
  refine ⟨?_, ?_, ?_, ?_, ?_⟩
  ·
   intro y0 y1 y2
   unfold hopmeshlaw14_CompressFinds.j0
   repeat' first
   | (with_reducible exact ih0 _ _ _)
   | (with_reducible exact ih1 _ _ _ _ _)
   | (with_reducible exact ih2 _ _ _ _ _ _ _)
   | (with_reducible exact ih3 _ _ _ _ _ _ _ _ _ _)
   | (with_reducible exact ih4 _ _ _ _ _ _ _ _)
   | (with_reducible exact compress_Find.mono _ _ _)
   | (with_reducible exact hopmeshlaw14_awake.mono _)
   | (with_reducible exact LeO.refl _)
   | (with_reducible exact LeO.none _)
   | (with_reducible refine LeO.ite ?_ ?_)
   | (with_reducible refine LeO.bind ?_ (fun _ => ?_))
   | exact ih0 _ _ _
   | exact ih1 _ _ _ _ _
   | exact ih2 _ _ _ _ _ _ _
   | exact ih3 _ _ _ _ _ _ _ _ _ _
   | exact ih4 _ _ _ _ _ _ _ _
   | exact compress_Find.mono _ _ _
   | exact hopmeshlaw14_awake.mono _
   | exact LeO.none _
   | refine LeO.ite ?_ ?_
   | refine LeO.bind ?_ (fun _ => ?_)
  ·
   intro y0 y1 y2 y3 y4
   unfold hopmeshlaw14_CompressFinds.j1
   repeat' first
   | (with_reducible exact ih0 _ _ _)
   | (with_reducible exact ih1 _ _ _ _ _)
   | (with_reducible exact ih2 _ _ _ _ _ _ _)
   | (with_reducible exact ih3 _ _ _ _ _ _ _ _ _ _)
   | (with_reducible exact ih4 _ _ _ _ _ _ _ _)
   | (with_reducible exact compress_Find.mono _ _ _)
   | (with_reducible exact hopmeshlaw14_awake.mono _)
   | (with_reducible exact LeO.refl _)
   | (with_reducible exact LeO.none _)
   | (with_reducible refine LeO.ite ?_ ?_)
   | (with_reducible refine LeO.bind ?_ (fun _ => ?_))
   | exact ih0 _ _ _
   | exact ih1 _ _ _ _ _
   | exact ih2 _ _ _ _ _ _ _
   | exact ih3 _ _ _ _ _ _ _ _ _ _
   | exact ih4 _ _ _ _ _ _ _ _
   | exact compress_Find.mono _ _ _
   | exact hopmeshlaw14_awake.mono _
   | exact LeO.none _
   | refine LeO.ite ?_ ?_
   | refine LeO.bind ?_ (fun _ => ?_)
  ·
   intro y0 y1 y2 y3 y4 y5 y6
   unfold hopmeshlaw14_CompressFinds.l0
   repeat' first
   | (with_reducible exact ih0 _ _ _)
   | (with_reducible exact ih1 _ _ _ _ _)
   | (with_reducible exact ih2 _ _ _ _ _ _ _)
   | (with_reducible exact ih3 _ _ _ _ _ _ _ _ _ _)
   | (with_reducible exact ih4 _ _ _ _ _ _ _ _)
   | (with_reducible exact compress_Find.mono _ _ _)
   | (with_reducible exact hopmeshlaw14_awake.mono _)
   | (with_reducible exact LeO.refl _)
   | (with_reducible exact LeO.none _)
   | (with_reducible refine LeO.ite ?_ ?_)
   | (with_reducible refine LeO.bind ?_ (fun _ => ?_))
   | exact ih0 _ _ _
   | exact ih1 _ _ _ _ _
   | exact ih2 _ _ _ _ _ _ _
   | exact ih3 _ _ _ _ _ _ _ _ _ _
   | exact ih4 _ _ _ _ _ _ _ _
   | exact compress_Find.mono _ _ _
   | exact hopmeshlaw14_awake.mono _
   | exact LeO.none _
   | refine LeO.ite ?_ ?_
   | refine LeO.bind ?_ (fun _ => ?_)
  ·
   intro y0 y1 y2 y3 y4 y5 y6 y7 y8 y9
   unfold hopmeshlaw14_CompressFinds.j3
   repeat' first
   | (with_reducible exact ih0 _ _ _)
   | (with_reducible exact ih1 _ _ _ _ _)
   | (with_reducible exact ih2 _ _ _ _ _ _ _)
   | (with_reducible exact ih3 _ _ _ _ _ _ _ _ _ _)
   | (with_reducible exact ih4 _ _ _ _ _ _ _ _)
   | (with_reducible exact compress_Find.mono _ _ _)
   | (with_reducible exact hopmeshlaw14_awake.mono _)
   | (with_reducible exact LeO.refl _)
   | (with_reducible exact LeO.none _)
   | (with_reducible refine LeO.ite ?_ ?_)
   | (with_reducible refine LeO.bind ?_ (fun _ => ?_))
   | exact ih0 _ _ _
   | exact ih1 _ _ _ _ _
   | exact ih2 _ _ _ _ _ _ _
   | exact ih3 _ _ _ _ _ _ _ _ _ _
   | exact ih4 _ _ _ _ _ _ _ _
   | exact compress_Find.mono _ _ _
   | exact hopmeshlaw14_awake.mono _
   | exact LeO.none _
   | refine LeO.ite ?_ ?_
   | refine LeO.bind ?_ (fun _ => ?_)
  ·
   intro y0 y1 y2 y3 y4 y5 y6 y7
   unfold hopmeshlaw14_CompressFinds.j4
   repeat' first
   | (with_reducible exact ih0 _ _ _)
   | (with_reducible exact ih1 _ _ _ _ _)
   | (with_reducible exact ih2 _ _ _ _ _ _ _)
   | (with_reducible exact ih3 _ _ _ _ _ _ _ _ _ _)
   | (with_reducible exact ih4 _ _ _ _ _ _ _ _)
   | (with_reducible exact compress_Find.mono _ _ _)
   | (with_reducible exact hopmeshlaw14_awake.mono _)
   | (with_reducible exact LeO.refl _)
   | (with_reducible exact LeO.none _)
   | (with_reducible refine LeO.ite ?_ ?_)
   | (with_reducible refine LeO.bind ?_ (fun _ => ?_))
   | exact ih0 _ _ _
   | exact ih1 _ _ _ _ _
   | exact ih2 _ _ _ _ _ _ _
   | exact ih3 _ _ _ _ _ _ _ _ _ _
   | exact ih4 _ _ _ _ _ _ _ _
   | exact compress_Find.mono _ _ _
   | exact hopmeshlaw14_awake.mono _
   | exact LeO.none _
   | refine LeO.ite ?_ ?_
   | refine LeO.bind ?_ (fun _ => ?_)
theorem hopmeshlaw14_CompressFinds.mono : ∀ a0 a1 k, LeO (hopmeshlaw14_CompressFinds.f k a0 a1) (hopmeshlaw14_CompressFinds.f (k + 1) a0 a1) := by
 intro a0 a1 k
 obtain ⟨ih0, ih1, ih2, ih3, ih4⟩ := hopmeshlaw14_CompressFinds.mono_l k
 unfold hopmeshlaw14_CompressFinds.f
 repeat' first
   | (with_reducible exact ih0 _ _ _)
   | (with_reducible exact ih1 _ _ _ _ _)
   | (with_reducible exact ih2 _ _ _ _ _ _ _)
   | (with_reducible exact ih3 _ _ _ _ _ _ _ _ _ _)
   | (with_reducible exact ih4 _ _ _ _ _ _ _ _)
   | (with_reducible exact compress_Find.mono _ _ _)
   | (with_reducible exact hopmeshlaw14_awake.mono _)
   | (with_reducible exact LeO.refl _)
   | (with_reducible exact LeO.none _)
   | (with_reducible refine LeO.ite ?_ ?_)
   | (with_reducible refine LeO.bind ?_ (fun _ => ?_))
   | exact ih0 _ _ _
   | exact ih1 _ _ _ _ _
   | exact ih2 _ _ _ _ _ _ _
   | exact ih3 _ _ _ _ _ _ _ _ _ _
   | exact ih4 _ _ _ _ _ _ _ _
   | exact compress_Find.mono _ _ _
   | exact hopmeshlaw14_awake.mono _
   | exact LeO.none _
   | refine LeO.ite ?_ ?_
   | refine LeO.bind ?_ (fun _ => ?_)
set_option maxHeartbeats 8000000 in
set_option maxRecDepth 100000 in
theorem hopmeshlaw14_CompressFinds.calls (k : Nat) (A0 : Option Addr) (c0 : Nat) (l0 : List (S26)) (a1 : ByteArray) (r : Bool) (w : World) (hr0 : Kd.C k26 w A0 l0.length l0) (hc0 : l0.length ≤ c0) (h : hopmeshlaw14_CompressFinds.f k l0 a1 = some r) :
  Calls Try.prog 5 #[.slice A0 l0.length c0, .string a1] w fun e w' => e = .returned (.bool r) ∧ Below w.heap.size w w' := by
 have hu26 := Try.underlying26
 have HR0 := Aside0.mk hr0
 have HC0 := Aside0.mk hc0
 clear hr0 hc0
 have HB := Aside0.mk (Below.refl w.heap.size w)
 have H : ((hopmeshlaw14_awake.f k).bind fun t191 => (if t191 = true then ((hopmeshlaw14_few.f l0).bind fun t192 => (if t192 = true then (hopmeshlaw14_CompressFinds.j0 k l0 a1 (decide ((a1.size : Int) > 20))) else (hopmeshlaw14_CompressFinds.j0 k l0 a1 true))) else (some false))) = some r := h
 clear h
 replace H := Option.bind_eq_some_iff.mp H
 obtain ⟨t191, A30, H⟩ := H
 replace H : (if t191 = true then ((hopmeshlaw14_few.f l0).bind fun t192 => (if t192 = true then (hopmeshlaw14_CompressFinds.j0 k l0 a1 (decide ((a1.size : Int) > 20))) else (hopmeshlaw14_CompressFinds.j0 k l0 a1 true))) else (some false)) = some r := H
 have A3 := Aside0.mk A30
 clear A30
 by_cases c4 : t191 = true
 ·
  subst c4
  have H1 : ((hopmeshlaw14_few.f l0).bind fun t192 => (if t192 = true then (hopmeshlaw14_CompressFinds.j0 k l0 a1 (decide ((a1.size : Int) > 20))) else (hopmeshlaw14_CompressFinds.j0 k l0 a1 true))) = some r := by rw [if_pos rfl] at H; exact H
  clear H
  have H := H1
  clear H1
  have HC5 := Aside0.mk H
  clear H
  go_enter Try.func5, Try.ntmps5
  go_upto_region 3 with (first | (go_at_call 10; (with_reducible refine (hopmeshlaw14_awake.calls k  true _ A3.out).mono ?_); rintro e w6 ⟨rfl, hb⟩; have n0_ := Aside0.mk (below_step hb_ hb); clear HB; have HB := n0_; clear n0_; (try clear hb); (try clear hb2); (try clear hk); (try clear hi)))
  repeat (go_quiet (first | (go_at_call 10; (with_reducible refine (hopmeshlaw14_awake.calls k  true _ A3.out).mono ?_); rintro e w6 ⟨rfl, hb⟩; have n0_ := Aside0.mk (below_step hb_ hb); clear HB; have HB := n0_; clear n0_; (try clear hb); (try clear hb2); (try clear hk); (try clear hi))); go_upto_region 3 with (first | (go_at_call 10; (with_reducible refine (hopmeshlaw14_awake.calls k  true _ A3.out).mono ?_); rintro e w6 ⟨rfl, hb⟩; have n0_ := Aside0.mk (below_step hb_ hb); clear HB; have HB := n0_; clear n0_; (try clear hb); (try clear hb2); (try clear hk); (try clear hi))))
  (try simp only [Act.put, List.setIfInBounds_toArray, List.set_cons_zero, List.set_cons_succ])
  go_cut [18] (fun v18 wc => ∃ (kq : Nat) (x18_4 : Bool), v18 = .bool x18_4 ∧ Aside0 (hopmeshlaw14_CompressFinds.j0 kq l0 a1 x18_4 = some r) ∧ Aside0 (kq ≤ k) ∧ Aside0 (Below w.heap.size w wc))
  case first =>
   have H := HC5.out
   clear HC5
   replace H := Option.bind_eq_some_iff.mp H
   obtain ⟨t192, A70, H⟩ := H
   replace H : (if t192 = true then (hopmeshlaw14_CompressFinds.j0 k l0 a1 (decide ((a1.size : Int) > 20))) else (hopmeshlaw14_CompressFinds.j0 k l0 a1 true)) = some r := H
   have A7 := Aside0.mk A70
   clear A70
   by_cases c8 : t192 = true
   ·
    subst c8
    have H1 : (hopmeshlaw14_CompressFinds.j0 k l0 a1 (decide ((a1.size : Int) > 20))) = some r := by rw [if_pos rfl] at H; exact H
    clear H
    have H := H1
    clear H1
    have H' := Aside0.mk H
    clear H
    go_wp2_with (first | (go_at_call 11; (with_reducible refine (hopmeshlaw14_few.calls _ _ l0 true _ ?side1 ?side2 A7.out).mono ?_); (case side1 => repeat (first | exact (Kd.C_below HR0.out HB.out) | (with_reducible refine Kd.C_alloc ?_ _) | (with_reducible refine Kd.C_drewN ?_ _) | (with_reducible refine Kd.C_drew ?_))); (case side2 => exact HC0.out); rintro e w9 ⟨rfl, hb⟩; have n0_ := Aside0.mk (below_step hb_ hb); clear HB; have HB := n0_; clear n0_; (try clear hb); (try clear hb2); (try clear hk); (try clear hi)))
    repeat (go_quiet (first | (go_at_call 11; (with_reducible refine (hopmeshlaw14_few.calls _ _ l0 true _ ?side1 ?side2 A7.out).mono ?_); (case side1 => repeat (first | exact (Kd.C_below HR0.out HB.out) | (with_reducible refine Kd.C_alloc ?_ _) | (with_reducible refine Kd.C_drewN ?_ _) | (with_reducible refine Kd.C_drew ?_))); (case side2 => exact HC0.out); rintro e w9 ⟨rfl, hb⟩; have n0_ := Aside0.mk (below_step hb_ hb); clear HB; have HB := n0_; clear n0_; (try clear hb); (try clear hb2); (try clear hk); (try clear hi))); try go_wp2_with (first | (go_at_call 11; (with_reducible refine (hopmeshlaw14_few.calls _ _ l0 true _ ?side1 ?side2 A7.out).mono ?_); (case side1 => repeat (first | exact (Kd.C_below HR0.out HB.out) | (with_reducible refine Kd.C_alloc ?_ _) | (with_reducible refine Kd.C_drewN ?_ _) | (with_reducible refine Kd.C_drew ?_))); (case side2 => exact HC0.out); rintro e w9 ⟨rfl, hb⟩; have n0_ := Aside0.mk (below_step hb_ hb); clear HB; have HB := n0_; clear n0_; (try clear hb); (try clear hb2); (try clear hk); (try clear hi))))
    go_meet
    case rel => exact ⟨_, (decide ((a1.size : Int) > 20)), rl_, H', ⟨by first | omega | exact Nat.le_refl _⟩, ⟨hb_⟩⟩
   ·
    replace c8 := Bool.eq_false_iff.mpr c8
    subst c8
    have H1 : (hopmeshlaw14_CompressFinds.j0 k l0 a1 true) = some r := by rw [if_neg (show ¬ (false = true) by decide)] at H; exact H
    clear H
    have H := H1
    clear H1
    have H' := Aside0.mk H
    clear H
    go_wp2_with (first | (go_at_call 11; (with_reducible refine (hopmeshlaw14_few.calls _ _ l0 false _ ?side1 ?side2 A7.out).mono ?_); (case side1 => repeat (first | exact (Kd.C_below HR0.out HB.out) | (with_reducible refine Kd.C_alloc ?_ _) | (with_reducible refine Kd.C_drewN ?_ _) | (with_reducible refine Kd.C_drew ?_))); (case side2 => exact HC0.out); rintro e w10 ⟨rfl, hb⟩; have n0_ := Aside0.mk (below_step hb_ hb); clear HB; have HB := n0_; clear n0_; (try clear hb); (try clear hb2); (try clear hk); (try clear hi)))
    repeat (go_quiet (first | (go_at_call 11; (with_reducible refine (hopmeshlaw14_few.calls _ _ l0 false _ ?side1 ?side2 A7.out).mono ?_); (case side1 => repeat (first | exact (Kd.C_below HR0.out HB.out) | (with_reducible refine Kd.C_alloc ?_ _) | (with_reducible refine Kd.C_drewN ?_ _) | (with_reducible refine Kd.C_drew ?_))); (case side2 => exact HC0.out); rintro e w10 ⟨rfl, hb⟩; have n0_ := Aside0.mk (below_step hb_ hb); clear HB; have HB := n0_; clear n0_; (try clear hb); (try clear hb2); (try clear hk); (try clear hi))); try go_wp2_with (first | (go_at_call 11; (with_reducible refine (hopmeshlaw14_few.calls _ _ l0 false _ ?side1 ?side2 A7.out).mono ?_); (case side1 => repeat (first | exact (Kd.C_below HR0.out HB.out) | (with_reducible refine Kd.C_alloc ?_ _) | (with_reducible refine Kd.C_drewN ?_ _) | (with_reducible refine Kd.C_drew ?_))); (case side2 => exact HC0.out); rintro e w10 ⟨rfl, hb⟩; have n0_ := Aside0.mk (below_step hb_ hb); clear HB; have HB := n0_; clear n0_; (try clear hb); (try clear hb2); (try clear hk); (try clear hi))))
    go_meet
    case rel => exact ⟨_, (true), rl_, H', ⟨by first | omega | exact Nat.le_refl _⟩, ⟨hb_⟩⟩
  case rest =>
   clear HC5
   try clear p2; try clear c4; try clear c5; try clear c8
   (repeat clear HB)
   obtain ⟨kq, x18_4, rfl, HA, HJ4, HB⟩ := hcut
   cases kq with
   | zero => exact absurd HA.out (by simp [hopmeshlaw14_CompressFinds.j0])
   | succ kj4 =>
    have H := HA.out
    clear HA
    simp only [hopmeshlaw14_CompressFinds.j0] at H
    by_cases c11 : x18_4 = true
    ·
     subst c11
     have H1 : (some true) = some r := by rw [if_pos rfl] at H; exact H
     clear H
     have H := H1
     clear H1
     obtain rfl := Option.some.inj H
     go_wp2
     repeat (go_quiet (fail); try go_wp2)
     go_ret
     exact ⟨er_, hb_⟩
    ·
     replace c11 := Bool.eq_false_iff.mpr c11
     subst c11
     have H1 : ((api_Context.f l0).bind fun t193 => ((compress_Find.f kj4 t193 a1).bind fun bt196 => ((api_Context.f l0).bind fun t198 => ((compress_Contexts.f t198).bind fun t201 => (if t201 = 0 then (hopmeshlaw14_CompressFinds.j1 kj4 l0 a1 bt196.1 bt196.2 ((a1.size : Int) != 4)) else (hopmeshlaw14_CompressFinds.j1 kj4 l0 a1 bt196.1 bt196.2 true)))))) = some r := by rw [if_neg (show ¬ (false = true) by decide)] at H; exact H
     clear H
     have H := H1
     clear H1
     replace H := Option.bind_eq_some_iff.mp H
     obtain ⟨t193, A120, H⟩ := H
     replace H : ((compress_Find.f kj4 t193 a1).bind fun bt196 => ((api_Context.f l0).bind fun t198 => ((compress_Contexts.f t198).bind fun t201 => (if t201 = 0 then (hopmeshlaw14_CompressFinds.j1 kj4 l0 a1 bt196.1 bt196.2 ((a1.size : Int) != 4)) else (hopmeshlaw14_CompressFinds.j1 kj4 l0 a1 bt196.1 bt196.2 true))))) = some r := H
     have A12 := Aside0.mk A120
     clear A120
     replace H := Option.bind_eq_some_iff.mp H
     obtain ⟨⟨t196, t197⟩, A130, H⟩ := H
     replace H : ((api_Context.f l0).bind fun t198 => ((compress_Contexts.f t198).bind fun t201 => (if t201 = 0 then (hopmeshlaw14_CompressFinds.j1 kj4 l0 a1 t196 t197 ((a1.size : Int) != 4)) else (hopmeshlaw14_CompressFinds.j1 kj4 l0 a1 t196 t197 true)))) = some r := H
     have A13 := Aside0.mk A130
     clear A130
     have HC14 := Aside0.mk H
     clear H
     go_upto_region 6 with (first | (go_at_call 14; (with_reducible refine (api_Context.calls _ _ l0 t193 _ ?side1 ?side2 A12.out).mono ?_); (case side1 => repeat (first | exact (Kd.C_below HR0.out HB.out) | (with_reducible refine Kd.C_alloc ?_ _) | (with_reducible refine Kd.C_drewN ?_ _) | (with_reducible refine Kd.C_drew ?_))); (case side2 => exact HC0.out); rintro e w15 ⟨v194, rfl, ho0, hb⟩; have n0_ := Aside0.mk (Kd.R_lower ho0 (below_size hb_)); have n1_ := Aside0.mk (below_step hb_ hb); clear HB; have HO195 := n0_; have HB := n1_; clear n0_ n1_; (try clear hb); (try clear hb2); (try clear hk); (try clear hi); (try clear ho0); obtain ⟨Ao16, co16, eo16⟩ := Kd.R_slice HO195.out; subst eo16) | (go_at_call 15; (with_reducible refine (compress_Find.calls kj4 _ _ t193 a1 t196 t197 _ ?side1 ?side2 A13.out).mono ?_); (case side1 => repeat (first | exact (Kd.R_reads' HO195.out).2.2 | (with_reducible refine Kd.C_alloc ?_ _) | (with_reducible refine Kd.C_drewN ?_ _) | (with_reducible refine Kd.C_drew ?_))); (case side2 => exact (Kd.R_reads' HO195.out).2.1); rintro e w17 ⟨rfl, hb⟩; have n0_ := Aside0.mk (Kd.R_below (kr_ HO195) hb); have n1_ := Aside0.mk (below_step hb_ hb); clear HO195; clear HB; have HO195 := n0_; have HB := n1_; clear n0_ n1_; (try clear hb); (try clear hb2); (try clear hk); (try clear hi)))
     repeat (go_quiet (first | (go_at_call 14; (with_reducible refine (api_Context.calls _ _ l0 t193 _ ?side1 ?side2 A12.out).mono ?_); (case side1 => repeat (first | exact (Kd.C_below HR0.out HB.out) | (with_reducible refine Kd.C_alloc ?_ _) | (with_reducible refine Kd.C_drewN ?_ _) | (with_reducible refine Kd.C_drew ?_))); (case side2 => exact HC0.out); rintro e w15 ⟨v194, rfl, ho0, hb⟩; have n0_ := Aside0.mk (Kd.R_lower ho0 (below_size hb_)); have n1_ := Aside0.mk (below_step hb_ hb); clear HB; have HO195 := n0_; have HB := n1_; clear n0_ n1_; (try clear hb); (try clear hb2); (try clear hk); (try clear hi); (try clear ho0); obtain ⟨Ao16, co16, eo16⟩ := Kd.R_slice HO195.out; subst eo16) | (go_at_call 15; (with_reducible refine (compress_Find.calls kj4 _ _ t193 a1 t196 t197 _ ?side1 ?side2 A13.out).mono ?_); (case side1 => repeat (first | exact (Kd.R_reads' HO195.out).2.2 | (with_reducible refine Kd.C_alloc ?_ _) | (with_reducible refine Kd.C_drewN ?_ _) | (with_reducible refine Kd.C_drew ?_))); (case side2 => exact (Kd.R_reads' HO195.out).2.1); rintro e w17 ⟨rfl, hb⟩; have n0_ := Aside0.mk (Kd.R_below (kr_ HO195) hb); have n1_ := Aside0.mk (below_step hb_ hb); clear HO195; clear HB; have HO195 := n0_; have HB := n1_; clear n0_ n1_; (try clear hb); (try clear hb2); (try clear hk); (try clear hi))); go_upto_region 6 with (first | (go_at_call 14; (with_reducible refine (api_Context.calls _ _ l0 t193 _ ?side1 ?side2 A12.out).mono ?_); (case side1 => repeat (first | exact (Kd.C_below HR0.out HB.out) | (with_reducible refine Kd.C_alloc ?_ _) | (with_reducible refine Kd.C_drewN ?_ _) | (with_reducible refine Kd.C_drew ?_))); (case side2 => exact HC0.out); rintro e w15 ⟨v194, rfl, ho0, hb⟩; have n0_ := Aside0.mk (Kd.R_lower ho0 (below_size hb_)); have n1_ := Aside0.mk (below_step hb_ hb); clear HB; have HO195 := n0_; have HB := n1_; clear n0_ n1_; (try clear hb); (try clear hb2); (try clear hk); (try clear hi); (try clear ho0); obtain ⟨Ao16, co16, eo16⟩ := Kd.R_slice HO195.out; subst eo16) | (go_at_call 15; (with_reducible refine (compress_Find.calls kj4 _ _ t193 a1 t196 t197 _ ?side1 ?side2 A13.out).mono ?_); (case side1 => repeat (first | exact (Kd.R_reads' HO195.out).2.2 | (with_reducible refine Kd.C_alloc ?_ _) | (with_reducible refine Kd.C_drewN ?_ _) | (with_reducible refine Kd.C_drew ?_))); (case side2 => exact (Kd.R_reads' HO195.out).2.1); rintro e w17 ⟨rfl, hb⟩; have n0_ := Aside0.mk (Kd.R_below (kr_ HO195) hb); have n1_ := Aside0.mk (below_step hb_ hb); clear HO195; clear HB; have HO195 := n0_; have HB := n1_; clear n0_ n1_; (try clear hb); (try clear hb2); (try clear hk); (try clear hi))))
     (try simp only [Act.put, List.setIfInBounds_toArray, List.set_cons_zero, List.set_cons_succ])
     go_cut [34] (fun v34 wc => ∃ (kq : Nat) (x34_13 : Bool), v34 = .bool x34_13 ∧ Aside0 (hopmeshlaw14_CompressFinds.j1 kq l0 a1 t196 t197 x34_13 = some r) ∧ Aside0 (kq ≤ kj4) ∧ Aside0 (Below w.heap.size w wc))
     case first =>
      have H := HC14.out
      clear HC14
      replace H := Option.bind_eq_some_iff.mp H
      obtain ⟨t198, A180, H⟩ := H
      replace H : ((compress_Contexts.f t198).bind fun t201 => (if t201 = 0 then (hopmeshlaw14_CompressFinds.j1 kj4 l0 a1 t196 t197 ((a1.size : Int) != 4)) else (hopmeshlaw14_CompressFinds.j1 kj4 l0 a1 t196 t197 true))) = some r := H
      have A18 := Aside0.mk A180
      clear A180
      replace H := Option.bind_eq_some_iff.mp H
      obtain ⟨t201, A190, H⟩ := H
      replace H : (if t201 = 0 then (hopmeshlaw14_CompressFinds.j1 kj4 l0 a1 t196 t197 ((a1.size : Int) != 4)) else (hopmeshlaw14_CompressFinds.j1 kj4 l0 a1 t196 t197 true)) = some r := H
      have A19 := Aside0.mk A190
      clear A190
      by_cases c20 : t201 = 0
      ·
       rw [if_pos c20] at H
       have c20b0 : (t201 == 0) = true := beq_iff_eq.mpr c20
       have c20b1 : (t201 != 0) = false := bne_eq_false_iff_eq.mpr c20
       clear c20
       (first | rw [c20b0] | (simp only [i64_w, i32_w]; rw [c20b0]) | skip)
       have H' := Aside0.mk H
       clear H
       go_wp2_with (first | (go_at_call 14; (with_reducible refine (api_Context.calls _ _ l0 t198 _ ?side1 ?side2 A18.out).mono ?_); (case side1 => repeat (first | exact (Kd.C_below HR0.out HB.out) | (with_reducible refine Kd.C_alloc ?_ _) | (with_reducible refine Kd.C_drewN ?_ _) | (with_reducible refine Kd.C_drew ?_))); (case side2 => exact HC0.out); rintro e w21 ⟨v199, rfl, ho0, hb⟩; have n0_ := Aside0.mk (Kd.R_elder' (kr_ HO195) (Kd.R_base ho0) hb); have n1_ := Aside0.mk (Kd.R_lower (Kd.R_new' ho0 (Kd.R_lt (kr_ HO195))) (below_size hb_)); have n2_ := Aside0.mk (below_step hb_ hb); clear HO195; clear HB; have HO195 := n0_; have HO200 := n1_; have HB := n2_; clear n0_ n1_ n2_; (try clear hb); (try clear hb2); (try clear hk); (try clear hi); (try clear ho0); obtain ⟨Ao22, co22, eo22⟩ := Kd.R_slice HO200.out; subst eo22) | (go_at_call 22; (with_reducible refine (compress_Contexts.calls _ _ t198 t201 _ ?side1 ?side2 A19.out).mono ?_); (case side1 => repeat (first | exact (Kd.R_reads' HO200.out).2.2 | (with_reducible refine Kd.C_alloc ?_ _) | (with_reducible refine Kd.C_drewN ?_ _) | (with_reducible refine Kd.C_drew ?_))); (case side2 => exact (Kd.R_reads' HO200.out).2.1); rintro e w23 ⟨rfl, hb⟩; have n0_ := Aside0.mk (Kd.R_below (kr_ HO195) hb); have n1_ := Aside0.mk (Kd.R_below (kr_ HO200) hb); have n2_ := Aside0.mk (below_step hb_ hb); clear HO195; clear HO200; clear HB; have HO195 := n0_; have HO200 := n1_; have HB := n2_; clear n0_ n1_ n2_; (try clear hb); (try clear hb2); (try clear hk); (try clear hi)))
       repeat (go_quiet (first | (go_at_call 14; (with_reducible refine (api_Context.calls _ _ l0 t198 _ ?side1 ?side2 A18.out).mono ?_); (case side1 => repeat (first | exact (Kd.C_below HR0.out HB.out) | (with_reducible refine Kd.C_alloc ?_ _) | (with_reducible refine Kd.C_drewN ?_ _) | (with_reducible refine Kd.C_drew ?_))); (case side2 => exact HC0.out); rintro e w21 ⟨v199, rfl, ho0, hb⟩; have n0_ := Aside0.mk (Kd.R_elder' (kr_ HO195) (Kd.R_base ho0) hb); have n1_ := Aside0.mk (Kd.R_lower (Kd.R_new' ho0 (Kd.R_lt (kr_ HO195))) (below_size hb_)); have n2_ := Aside0.mk (below_step hb_ hb); clear HO195; clear HB; have HO195 := n0_; have HO200 := n1_; have HB := n2_; clear n0_ n1_ n2_; (try clear hb); (try clear hb2); (try clear hk); (try clear hi); (try clear ho0); obtain ⟨Ao22, co22, eo22⟩ := Kd.R_slice HO200.out; subst eo22) | (go_at_call 22; (with_reducible refine (compress_Contexts.calls _ _ t198 t201 _ ?side1 ?side2 A19.out).mono ?_); (case side1 => repeat (first | exact (Kd.R_reads' HO200.out).2.2 | (with_reducible refine Kd.C_alloc ?_ _) | (with_reducible refine Kd.C_drewN ?_ _) | (with_reducible refine Kd.C_drew ?_))); (case side2 => exact (Kd.R_reads' HO200.out).2.1); rintro e w23 ⟨rfl, hb⟩; have n0_ := Aside0.mk (Kd.R_below (kr_ HO195) hb); have n1_ := Aside0.mk (Kd.R_below (kr_ HO200) hb); have n2_ := Aside0.mk (below_step hb_ hb); clear HO195; clear HO200; clear HB; have HO195 := n0_; have HO200 := n1_; have HB := n2_; clear n0_ n1_ n2_; (try clear hb); (try clear hb2); (try clear hk); (try clear hi))); try go_wp2_with (first | (go_at_call 14; (with_reducible refine (api_Context.calls _ _ l0 t198 _ ?side1 ?side2 A18.out).mono ?_); (case side1 => repeat (first | exact (Kd.C_below HR0.out HB.out) | (with_reducible refine Kd.C_alloc ?_ _) | (with_reducible refine Kd.C_drewN ?_ _) | (with_reducible refine Kd.C_drew ?_))); (case side2 => exact HC0.out); rintro e w21 ⟨v199, rfl, ho0, hb⟩; have n0_ := Aside0.mk (Kd.R_elder' (kr_ HO195) (Kd.R_base ho0) hb); have n1_ := Aside0.mk (Kd.R_lower (Kd.R_new' ho0 (Kd.R_lt (kr_ HO195))) (below_size hb_)); have n2_ := Aside0.mk (below_step hb_ hb); clear HO195; clear HB; have HO195 := n0_; have HO200 := n1_; have HB := n2_; clear n0_ n1_ n2_; (try clear hb); (try clear hb2); (try clear hk); (try clear hi); (try clear ho0); obtain ⟨Ao22, co22, eo22⟩ := Kd.R_slice HO200.out; subst eo22) | (go_at_call 22; (with_reducible refine (compress_Contexts.calls _ _ t198 t201 _ ?side1 ?side2 A19.out).mono ?_); (case side1 => repeat (first | exact (Kd.R_reads' HO200.out).2.2 | (with_reducible refine Kd.C_alloc ?_ _) | (with_reducible refine Kd.C_drewN ?_ _) | (with_reducible refine Kd.C_drew ?_))); (case side2 => exact (Kd.R_reads' HO200.out).2.1); rintro e w23 ⟨rfl, hb⟩; have n0_ := Aside0.mk (Kd.R_below (kr_ HO195) hb); have n1_ := Aside0.mk (Kd.R_below (kr_ HO200) hb); have n2_ := Aside0.mk (below_step hb_ hb); clear HO195; clear HO200; clear HB; have HO195 := n0_; have HO200 := n1_; have HB := n2_; clear n0_ n1_ n2_; (try clear hb); (try clear hb2); (try clear hk); (try clear hi))))
       go_meet
       case rel => exact ⟨_, (((a1.size : Int) != 4)), rl_, H', ⟨by have := HJ4.out; first | omega | exact Nat.le_refl _⟩, ⟨hb_⟩⟩
      ·
       rw [if_neg c20] at H
       have c20b0 : (t201 == 0) = false := beq_eq_false_iff_ne.mpr c20
       have c20b1 : (t201 != 0) = true := bne_iff_ne.mpr c20
       (first | rw [c20b0] | (simp only [i64_w, i32_w]; rw [c20b0]) | skip)
       have H' := Aside0.mk H
       clear H
       go_wp2_with (first | (go_at_call 14; (with_reducible refine (api_Context.calls _ _ l0 t198 _ ?side1 ?side2 A18.out).mono ?_); (case side1 => repeat (first | exact (Kd.C_below HR0.out HB.out) | (with_reducible refine Kd.C_alloc ?_ _) | (with_reducible refine Kd.C_drewN ?_ _) | (with_reducible refine Kd.C_drew ?_))); (case side2 => exact HC0.out); rintro e w24 ⟨v199, rfl, ho0, hb⟩; have n0_ := Aside0.mk (Kd.R_elder' (kr_ HO195) (Kd.R_base ho0) hb); have n1_ := Aside0.mk (Kd.R_lower (Kd.R_new' ho0 (Kd.R_lt (kr_ HO195))) (below_size hb_)); have n2_ := Aside0.mk (below_step hb_ hb); clear HO195; clear HB; have HO195 := n0_; have HO200 := n1_; have HB := n2_; clear n0_ n1_ n2_; (try clear hb); (try clear hb2); (try clear hk); (try clear hi); (try clear ho0); obtain ⟨Ao25, co25, eo25⟩ := Kd.R_slice HO200.out; subst eo25) | (go_at_call 22; (with_reducible refine (compress_Contexts.calls _ _ t198 t201 _ ?side1 ?side2 A19.out).mono ?_); (case side1 => repeat (first | exact (Kd.R_reads' HO200.out).2.2 | (with_reducible refine Kd.C_alloc ?_ _) | (with_reducible refine Kd.C_drewN ?_ _) | (with_reducible refine Kd.C_drew ?_))); (case side2 => exact (Kd.R_reads' HO200.out).2.1); rintro e w26 ⟨rfl, hb⟩; have n0_ := Aside0.mk (Kd.R_below (kr_ HO195) hb); have n1_ := Aside0.mk (Kd.R_below (kr_ HO200) hb); have n2_ := Aside0.mk (below_step hb_ hb); clear HO195; clear HO200; clear HB; have HO195 := n0_; have HO200 := n1_; have HB := n2_; clear n0_ n1_ n2_; (try clear hb); (try clear hb2); (try clear hk); (try clear hi)))
       repeat (go_quiet (first | (go_at_call 14; (with_reducible refine (api_Context.calls _ _ l0 t198 _ ?side1 ?side2 A18.out).mono ?_); (case side1 => repeat (first | exact (Kd.C_below HR0.out HB.out) | (with_reducible refine Kd.C_alloc ?_ _) | (with_reducible refine Kd.C_drewN ?_ _) | (with_reducible refine Kd.C_drew ?_))); (case side2 => exact HC0.out); rintro e w24 ⟨v199, rfl, ho0, hb⟩; have n0_ := Aside0.mk (Kd.R_elder' (kr_ HO195) (Kd.R_base ho0) hb); have n1_ := Aside0.mk (Kd.R_lower (Kd.R_new' ho0 (Kd.R_lt (kr_ HO195))) (below_size hb_)); have n2_ := Aside0.mk (below_step hb_ hb); clear HO195; clear HB; have HO195 := n0_; have HO200 := n1_; have HB := n2_; clear n0_ n1_ n2_; (try clear hb); (try clear hb2); (try clear hk); (try clear hi); (try clear ho0); obtain ⟨Ao25, co25, eo25⟩ := Kd.R_slice HO200.out; subst eo25) | (go_at_call 22; (with_reducible refine (compress_Contexts.calls _ _ t198 t201 _ ?side1 ?side2 A19.out).mono ?_); (case side1 => repeat (first | exact (Kd.R_reads' HO200.out).2.2 | (with_reducible refine Kd.C_alloc ?_ _) | (with_reducible refine Kd.C_drewN ?_ _) | (with_reducible refine Kd.C_drew ?_))); (case side2 => exact (Kd.R_reads' HO200.out).2.1); rintro e w26 ⟨rfl, hb⟩; have n0_ := Aside0.mk (Kd.R_below (kr_ HO195) hb); have n1_ := Aside0.mk (Kd.R_below (kr_ HO200) hb); have n2_ := Aside0.mk (below_step hb_ hb); clear HO195; clear HO200; clear HB; have HO195 := n0_; have HO200 := n1_; have HB := n2_; clear n0_ n1_ n2_; (try clear hb); (try clear hb2); (try clear hk); (try clear hi))); try go_wp2_with (first | (go_at_call 14; (with_reducible refine (api_Context.calls _ _ l0 t198 _ ?side1 ?side2 A18.out).mono ?_); (case side1 => repeat (first | exact (Kd.C_below HR0.out HB.out) | (with_reducible refine Kd.C_alloc ?_ _) | (with_reducible refine Kd.C_drewN ?_ _) | (with_reducible refine Kd.C_drew ?_))); (case side2 => exact HC0.out); rintro e w24 ⟨v199, rfl, ho0, hb⟩; have n0_ := Aside0.mk (Kd.R_elder' (kr_ HO195) (Kd.R_base ho0) hb); have n1_ := Aside0.mk (Kd.R_lower (Kd.R_new' ho0 (Kd.R_lt (kr_ HO195))) (below_size hb_)); have n2_ := Aside0.mk (below_step hb_ hb); clear HO195; clear HB; have HO195 := n0_; have HO200 := n1_; have HB := n2_; clear n0_ n1_ n2_; (try clear hb); (try clear hb2); (try clear hk); (try clear hi); (try clear ho0); obtain ⟨Ao25, co25, eo25⟩ := Kd.R_slice HO200.out; subst eo25) | (go_at_call 22; (with_reducible refine (compress_Contexts.calls _ _ t198 t201 _ ?side1 ?side2 A19.out).mono ?_); (case side1 => repeat (first | exact (Kd.R_reads' HO200.out).2.2 | (with_reducible refine Kd.C_alloc ?_ _) | (with_reducible refine Kd.C_drewN ?_ _) | (with_reducible refine Kd.C_drew ?_))); (case side2 => exact (Kd.R_reads' HO200.out).2.1); rintro e w26 ⟨rfl, hb⟩; have n0_ := Aside0.mk (Kd.R_below (kr_ HO195) hb); have n1_ := Aside0.mk (Kd.R_below (kr_ HO200) hb); have n2_ := Aside0.mk (below_step hb_ hb); clear HO195; clear HO200; clear HB; have HO195 := n0_; have HO200 := n1_; have HB := n2_; clear n0_ n1_ n2_; (try clear hb); (try clear hb2); (try clear hk); (try clear hi))))
       go_meet
       case rel => exact ⟨_, (true), rl_, H', ⟨by have := HJ4.out; first | omega | exact Nat.le_refl _⟩, ⟨hb_⟩⟩
     case rest =>
      clear HC14
      try clear c1; try clear c2; try clear p2; try clear c4; try clear c5; try clear c8; try clear c11; try clear c20; try clear c20b0; try clear c20b1; try clear p2
      (repeat clear HB)
      obtain ⟨kq, x34_13, rfl, HA, HJ13, HB⟩ := hcut
      cases kq with
      | zero => exact absurd HA.out (by simp [hopmeshlaw14_CompressFinds.j1])
      | succ kj13 =>
       have H := HA.out
       clear HA
       simp only [hopmeshlaw14_CompressFinds.j1] at H
       by_cases c27 : x34_13 = true
       ·
        subst c27
        have H1 : (if t196 = 0 then (some (!t197)) else (some false)) = some r := by rw [if_pos rfl] at H; exact H
        clear H
        have H := H1
        clear H1
        by_cases c28 : t196 = 0
        ·
         rw [if_pos c28] at H
         have c28b0 : (t196 == 0) = true := beq_iff_eq.mpr c28
         have c28b1 : (t196 != 0) = false := bne_eq_false_iff_eq.mpr c28
         clear c28
         obtain rfl := Option.some.inj H
         go_wp2
         repeat (go_quiet (fail); try go_wp2)
         go_ret
         exact ⟨er_, hb_⟩
        ·
         rw [if_neg c28] at H
         have c28b0 : (t196 == 0) = false := beq_eq_false_iff_ne.mpr c28
         have c28b1 : (t196 != 0) = true := bne_iff_ne.mpr c28
         obtain rfl := Option.some.inj H
         go_wp2
         repeat (go_quiet (fail); try go_wp2)
         go_ret
         exact ⟨er_, hb_⟩
       ·
        replace c27 := Bool.eq_false_iff.mpr c27
        subst c27
        have H1 : (hopmeshlaw14_CompressFinds.l0 kj13 l0 a1 t196 t197 l0 (l0.length : Int) 0) = some r := by rw [if_neg (show ¬ (false = true) by decide)] at H; exact H
        clear H
        have H := H1
        clear H1
        have H' := Aside0.mk H
        clear H
        go_wp2
        repeat (go_quiet (fail); try go_wp2)
        go_loopg [43] kj13 (fun kq v43 w' => ∃ (x43_3 : Int), v43 = .int .i64 x43_3 ∧ Aside0 (hopmeshlaw14_CompressFinds.l0 kq l0 a1 t196 t197 l0 (l0.length : Int) x43_3 = some r) ∧ Aside0 (kq ≤ kj13) ∧ Aside0 (Below w.heap.size w w'))
        case atStart => exact ⟨(0), rl_, H', ⟨Nat.le_refl _⟩, ⟨hb_⟩⟩
        case round =>
         clear H'
         try clear c1; try clear c2; try clear p2; try clear c4; try clear c5; try clear c8; try clear c11; try clear c20; try clear c20b0; try clear c20b1; try clear c27; try clear c28; try clear c28b0; try clear c28b1; try clear p2
         (repeat clear HB)
         obtain ⟨x43_3, rfl, HA, HK3, HB⟩ := hrel
         cases gk with
         | zero => exact absurd HA.out (by simp [hopmeshlaw14_CompressFinds.l0])
         | succ k3 =>
          have H := HA.out
          clear HA
          simp only [hopmeshlaw14_CompressFinds.l0] at H
          by_cases c29 : x43_3 < (l0.length : Int)
          ·
           rw [if_pos c29] at H
           have c29b0 : decide (x43_3 < (l0.length : Int)) = true := decide_eq_true c29
           clear c29
           by_cases c30 : 0 ≤ x43_3
           ·
            rw [if_pos c30] at H
            have c30b0 : decide (0 ≤ x43_3) = true := decide_eq_true c30
            clear c30
            by_cases c31 : x43_3 < (l0.length : Int)
            ·
             rw [if_pos c31] at H
             have c31b0 : decide (x43_3 < (l0.length : Int)) = true := decide_eq_true c31
             clear c31
             have HC32 := Aside0.mk H
             clear H
             have p202 : 0 ≤ (x43_3 : Int) := of_decide_eq_true (by assumption)
             have q202 : x43_3 < (l0.length : Int) := of_decide_eq_true (by assumption)
             obtain ⟨ad202, e202, hx202_0⟩ := at_T26 HR0.out x43_3 p202 q202
             cases e202
             replace hx202_0 := (HB.out.cell (World.block_lt_of_cell? w _ hx202_0)).trans hx202_0
             replace p202 := eq_true p202
             replace q202 := eq_true q202
             go_upto_region 11 with (first | ((with_reducible refine gate_dst (N := 8) rfl ?_); refine bx_ 8 #[.string (⟨#[]⟩ : ByteArray)] 26 ?_; intro gb203 hg w33 hbox hb; have n0_ := Aside0.mk (below_step hb_ hb); have n1_ := Aside0.mk (hbox); have n2_ := Aside0.mk ((by rw [hg]; exact (below_size hb_) : w.heap.size ≤ gb203)); have n3_ := Aside0.mk ((by rw [hg]; exact (below_size hb_) : w.heap.size ≤ gb203)); clear HB; have HB := n0_; have BK203 := n1_; have GW203 := n2_; have GE203 := n3_; clear n0_ n1_ n2_ n3_; clear hb hbox hg; have hcz34_0 := bc0 BK203; have hfz34_0 := blk_frozen BK203.out 0))
             repeat (go_quiet (first | ((with_reducible refine gate_dst (N := 8) rfl ?_); refine bx_ 8 #[.string (⟨#[]⟩ : ByteArray)] 26 ?_; intro gb203 hg w33 hbox hb; have n0_ := Aside0.mk (below_step hb_ hb); have n1_ := Aside0.mk (hbox); have n2_ := Aside0.mk ((by rw [hg]; exact (below_size hb_) : w.heap.size ≤ gb203)); have n3_ := Aside0.mk ((by rw [hg]; exact (below_size hb_) : w.heap.size ≤ gb203)); clear HB; have HB := n0_; have BK203 := n1_; have GW203 := n2_; have GE203 := n3_; clear n0_ n1_ n2_ n3_; clear hb hbox hg; have hcz34_0 := bc0 BK203; have hfz34_0 := blk_frozen BK203.out 0)); go_upto_region 11 with (first | ((with_reducible refine gate_dst (N := 8) rfl ?_); refine bx_ 8 #[.string (⟨#[]⟩ : ByteArray)] 26 ?_; intro gb203 hg w33 hbox hb; have n0_ := Aside0.mk (below_step hb_ hb); have n1_ := Aside0.mk (hbox); have n2_ := Aside0.mk ((by rw [hg]; exact (below_size hb_) : w.heap.size ≤ gb203)); have n3_ := Aside0.mk ((by rw [hg]; exact (below_size hb_) : w.heap.size ≤ gb203)); clear HB; have HB := n0_; have BK203 := n1_; have GW203 := n2_; have GE203 := n3_; clear n0_ n1_ n2_ n3_; clear hb hbox hg; have hcz34_0 := bc0 BK203; have hfz34_0 := blk_frozen BK203.out 0)))
             (try simp only [Act.put, List.setIfInBounds_toArray, List.set_cons_zero, List.set_cons_succ])
             go_cut [57] (fun v57 wc => ∃ (kq : Nat) (x57_31 : Bool), v57 = .bool x57_31 ∧ Aside0 (hopmeshlaw14_CompressFinds.j3 kq l0 a1 t196 t197 x43_3 l0 (l0.length : Int) x43_3 x57_31 ((rd_T26 l0 x43_3).f0) = some r) ∧ Aside0 (kq ≤ k3) ∧ Aside0 (wc.heap[gb203]? = some (.cells #[.string ((rd_T26 l0 x43_3).f0)] 26 (0, 0))) ∧ Aside0 (Below w.heap.size w wc))
             case first =>
              have H := HC32.out
              clear HC32
              by_cases c35 : (((rd_T26 l0 x43_3).f0).size : Int) < 1
              ·
               rw [if_pos c35] at H
               have c35b0 : decide ((((rd_T26 l0 x43_3).f0).size : Int) < 1) = true := decide_eq_true c35
               have c35b1 : decide (((rd_T26 l0 x43_3).f0).size < 1) = true := decide_eq_true (by omega)
               clear c35
               (first | rw [c35b0] | (simp only [i64_w, i32_w]; rw [c35b0]) | skip)
               have H' := Aside0.mk H
               clear H
               have hcz36_0 := bc0 BK203
               have hfz36_0 := blk_frozen BK203.out 0
               go_wp2
               repeat (go_quiet (fail); try go_wp2)
               go_meet
               case rel => exact ⟨_, (true), rl_, H', ⟨by have := HJ4.out; have := HJ13.out; have := HK3.out; first | omega | exact Nat.le_refl _⟩, ⟨by (with_reducible repeat (first | refine blk_drewN ?_ _ | refine blk_drew ?_ | refine blk_alloc ?_ _)); refine blk_put (cs := #[.string (⟨#[]⟩ : ByteArray)]) ?_ 0 _ rfl; (with_reducible repeat (first | refine blk_drewN ?_ _ | refine blk_drew ?_ | refine blk_alloc ?_ _)); exact BK203.out⟩, ⟨hb_⟩⟩
              ·
               rw [if_neg c35] at H
               have c35b0 : decide ((((rd_T26 l0 x43_3).f0).size : Int) < 1) = false := decide_eq_false c35
               have c35b1 : decide (((rd_T26 l0 x43_3).f0).size < 1) = false := decide_eq_false (by omega)
               clear c35
               (first | rw [c35b0] | (simp only [i64_w, i32_w]; rw [c35b0]) | skip)
               have H' := Aside0.mk H
               clear H
               have hcz37_0 := bc0 BK203
               have hfz37_0 := blk_frozen BK203.out 0
               go_wp2
               repeat (go_quiet (fail); try go_wp2)
               go_meet
               case rel => exact ⟨_, (decide ((((rd_T26 l0 x43_3).f0).size : Int) > 4)), rl_, H', ⟨by have := HJ4.out; have := HJ13.out; have := HK3.out; first | omega | exact Nat.le_refl _⟩, ⟨by (with_reducible repeat (first | refine blk_drewN ?_ _ | refine blk_drew ?_ | refine blk_alloc ?_ _)); refine blk_put (cs := #[.string (⟨#[]⟩ : ByteArray)]) ?_ 0 _ rfl; (with_reducible repeat (first | refine blk_drewN ?_ _ | refine blk_drew ?_ | refine blk_alloc ?_ _)); exact BK203.out⟩, ⟨hb_⟩⟩
             case rest =>
              clear HC32
              try clear c1; try clear c2; try clear p2; try clear q2; try clear hx2; try clear c3; try clear c4; try clear c5; try clear c8; try clear c11; try clear c20; try clear c20b0; try clear c20b1; try clear p20; try clear q20; try clear hx20; try clear c27; try clear c28; try clear c28b0; try clear c28b1; try clear c29; try clear c29b0; try clear c30; try clear c30b0; try clear c31; try clear c31b0; try clear c35; try clear c35b0; try clear c35b1; try clear hcz34_0; try clear hcz36_0; try clear hcz37_0; try clear hfz34_0; try clear hfz36_0; try clear hfz37_0; try clear hx202_0; try clear p2; try clear p202; try clear q202
              (repeat clear BK203); (repeat clear HB)
              obtain ⟨kq, x57_31, rfl, HA, HJ31, BK203, HB⟩ := hcut
              cases kq with
              | zero => exact absurd HA.out (by simp [hopmeshlaw14_CompressFinds.j3])
              | succ kj31 =>
               have H := HA.out
               clear HA
               simp only [hopmeshlaw14_CompressFinds.j3] at H
               by_cases c38 : x57_31 = true
               ·
                subst c38
                have H1 : (some false) = some r := by rw [if_pos rfl] at H; exact H
                clear H
                have H := H1
                clear H1
                obtain rfl := Option.some.inj H
                go_wp2
                repeat (go_quiet (fail); try go_wp2)
                go_ret
                exact ⟨er_, hb_⟩
               ·
                replace c38 := Bool.eq_false_iff.mpr c38
                subst c38
                have H1 : (if 0 ≤ (((rd_T26 l0 x43_3).f0).size : Int) then (if (((rd_T26 l0 x43_3).f0).size : Int) ≤ (a1.size : Int) then (if (a1.extract 0 ((((rd_T26 l0 x43_3).f0).size : Int) : Int).toNat).toList = ((rd_T26 l0 x43_3).f0).toList then (if t197 = true then (if t196 < 0 then (hopmeshlaw14_CompressFinds.j4 kj31 l0 a1 t196 t197 l0 (l0.length : Int) x43_3 true) else (if t196 ≥ (l0.length : Int) then (hopmeshlaw14_CompressFinds.j4 kj31 l0 a1 t196 t197 l0 (l0.length : Int) x43_3 true) else (if 0 ≤ t196 then (if t196 < (l0.length : Int) then (if (((rd_T26 l0 x43_3).f0).size : Int) > (((rd_T26 l0 t196).f0).size : Int) then (hopmeshlaw14_CompressFinds.j4 kj31 l0 a1 t196 t197 l0 (l0.length : Int) x43_3 true) else (if (((rd_T26 l0 x43_3).f0).size : Int) = (((rd_T26 l0 t196).f0).size : Int) then (hopmeshlaw14_CompressFinds.j4 kj31 l0 a1 t196 t197 l0 (l0.length : Int) x43_3 (decide (x43_3 < t196))) else (hopmeshlaw14_CompressFinds.j4 kj31 l0 a1 t196 t197 l0 (l0.length : Int) x43_3 false))) else (none)) else (none)))) else (hopmeshlaw14_CompressFinds.j4 kj31 l0 a1 t196 t197 l0 (l0.length : Int) x43_3 true)) else (if t197 = true then (if x43_3 = t196 then (some false) else (hopmeshlaw14_CompressFinds.l0 kj31 l0 a1 t196 t197 l0 (l0.length : Int) (wrap64 (x43_3 + 1)))) else (hopmeshlaw14_CompressFinds.l0 kj31 l0 a1 t196 t197 l0 (l0.length : Int) (wrap64 (x43_3 + 1))))) else (none)) else (none)) = some r := by rw [if_neg (show ¬ (false = true) by decide)] at H; exact H
                clear H
                have H := H1
                clear H1
                by_cases c39 : 0 ≤ (((rd_T26 l0 x43_3).f0).size : Int)
                ·
                 rw [if_pos c39] at H
                 have c39b0 := eq_true c39
                 have c39b1 : decide (0 ≤ (((rd_T26 l0 x43_3).f0).size : Int)) = true := decide_eq_true c39
                 clear c39
                 by_cases c40 : (((rd_T26 l0 x43_3).f0).size : Int) ≤ (a1.size : Int)
                 ·
                  rw [if_pos c40] at H
                  have c40b0 := eq_true c40
                  have c40b1 : decide ((((rd_T26 l0 x43_3).f0).size : Int) ≤ (a1.size : Int)) = true := decide_eq_true c40
                  clear c40
                  by_cases c41 : (a1.extract 0 ((((rd_T26 l0 x43_3).f0).size : Int) : Int).toNat).toList = ((rd_T26 l0 x43_3).f0).toList
                  ·
                   rw [if_pos c41] at H
                   have c41b0 : ((a1.extract 0 ((((rd_T26 l0 x43_3).f0).size : Int) : Int).toNat).toList == ((rd_T26 l0 x43_3).f0).toList) = true := beq_iff_eq.mpr c41
                   try simp only [Int.toNat_natCast] at c41b0
                   have c41b1 : ((a1.extract 0 ((((rd_T26 l0 x43_3).f0).size : Int) : Int).toNat).toList != ((rd_T26 l0 x43_3).f0).toList) = false := bne_eq_false_iff_eq.mpr c41
                   try simp only [Int.toNat_natCast] at c41b1
                   clear c41
                   have HC42 := Aside0.mk H
                   clear H
                   have hcz43_0 := bc0 BK203
                   have hfz43_0 := blk_frozen BK203.out 0
                   go_upto_region 16 with (fail)
                   repeat (go_quiet (fail); go_upto_region 16 with (fail))
                   go_cut [112] (fun v112 wc => ∃ (kq : Nat) (x112_41 : Bool), v112 = .bool x112_41 ∧ Aside0 (hopmeshlaw14_CompressFinds.j4 kq l0 a1 t196 t197 l0 (l0.length : Int) x43_3 x112_41 = some r) ∧ Aside0 (kq ≤ kj31) ∧ Aside0 (wc.heap[gb203]? = some (.cells #[.string ((rd_T26 l0 x43_3).f0)] 26 (0, 0))) ∧ Aside0 (Below w.heap.size w wc))
                   case first =>
                    have H := HC42.out
                    clear HC42
                    by_cases c44 : t197 = true
                    ·
                     subst c44
                     have H1 : (if t196 < 0 then (hopmeshlaw14_CompressFinds.j4 kj31 l0 a1 t196 true l0 (l0.length : Int) x43_3 true) else (if t196 ≥ (l0.length : Int) then (hopmeshlaw14_CompressFinds.j4 kj31 l0 a1 t196 true l0 (l0.length : Int) x43_3 true) else (if 0 ≤ t196 then (if t196 < (l0.length : Int) then (if (((rd_T26 l0 x43_3).f0).size : Int) > (((rd_T26 l0 t196).f0).size : Int) then (hopmeshlaw14_CompressFinds.j4 kj31 l0 a1 t196 true l0 (l0.length : Int) x43_3 true) else (if (((rd_T26 l0 x43_3).f0).size : Int) = (((rd_T26 l0 t196).f0).size : Int) then (hopmeshlaw14_CompressFinds.j4 kj31 l0 a1 t196 true l0 (l0.length : Int) x43_3 (decide (x43_3 < t196))) else (hopmeshlaw14_CompressFinds.j4 kj31 l0 a1 t196 true l0 (l0.length : Int) x43_3 false))) else (none)) else (none)))) = some r := by rw [if_pos rfl] at H; exact H
                     clear H
                     have H := H1
                     clear H1
                     by_cases c45 : t196 < 0
                     ·
                      rw [if_pos c45] at H
                      have c45b0 : decide (t196 < 0) = true := decide_eq_true c45
                      clear c45
                      (first | rw [c45b0] | (simp only [i64_w, i32_w]; rw [c45b0]) | skip)
                      have H' := Aside0.mk H
                      clear H
                      go_wp2
                      repeat (go_quiet (fail); try go_wp2)
                      go_meet
                      case rel => exact ⟨_, (true), rl_, H', ⟨by have := HJ4.out; have := HJ13.out; have := HK3.out; have := HJ31.out; first | omega | exact Nat.le_refl _⟩, ⟨bj_ BK203⟩, ⟨hb_⟩⟩
                     ·
                      rw [if_neg c45] at H
                      have c45b0 : decide (t196 < 0) = false := decide_eq_false c45
                      clear c45
                      (first | rw [c45b0] | (simp only [i64_w, i32_w]; rw [c45b0]) | skip)
                      by_cases c46 : t196 ≥ (l0.length : Int)
                      ·
                       rw [if_pos c46] at H
                       have c46b0 : decide ((l0.length : Int) ≤ t196) = true := decide_eq_true c46
                       clear c46
                       have H' := Aside0.mk H
                       clear H
                       go_wp2
                       repeat (go_quiet (fail); try go_wp2)
                       go_meet
                       case rel => exact ⟨_, (true), rl_, H', ⟨by have := HJ4.out; have := HJ13.out; have := HK3.out; have := HJ31.out; first | omega | exact Nat.le_refl _⟩, ⟨bj_ BK203⟩, ⟨hb_⟩⟩
                      ·
                       rw [if_neg c46] at H
                       have c46b0 : decide ((l0.length : Int) ≤ t196) = false := decide_eq_false c46
                       clear c46
                       by_cases c47 : 0 ≤ t196
                       ·
                        rw [if_pos c47] at H
                        have c47b0 : decide (0 ≤ t196) = true := decide_eq_true c47
                        clear c47
                        by_cases c48 : t196 < (l0.length : Int)
                        ·
                         rw [if_pos c48] at H
                         have c48b0 : decide (t196 < (l0.length : Int)) = true := decide_eq_true c48
                         clear c48
                         by_cases c49 : (((rd_T26 l0 x43_3).f0).size : Int) > (((rd_T26 l0 t196).f0).size : Int)
                         ·
                          rw [if_pos c49] at H
                          have c49b0 : decide ((((rd_T26 l0 t196).f0).size : Int) < (((rd_T26 l0 x43_3).f0).size : Int)) = true := decide_eq_true c49
                          have c49b1 : decide (((rd_T26 l0 t196).f0).size < ((rd_T26 l0 x43_3).f0).size) = true := decide_eq_true (Int.ofNat_lt.mp c49)
                          clear c49
                          have H' := Aside0.mk H
                          clear H
                          have hcz50_0 := bc0 BK203
                          have hfz50_0 := blk_frozen BK203.out 0
                          have p204 : 0 ≤ (t196 : Int) := of_decide_eq_true (by assumption)
                          have q204 : t196 < (l0.length : Int) := of_decide_eq_true (by assumption)
                          obtain ⟨ad204, e204, hx204_0⟩ := at_T26 HR0.out t196 p204 q204
                          obtain rfl : ad202 = ad204 := (by injection e204)
                          replace hx204_0 := (HB.out.cell (World.block_lt_of_cell? w _ hx204_0)).trans hx204_0
                          replace p204 := eq_true p204
                          replace q204 := eq_true q204
                          go_wp2
                          repeat (go_quiet (fail); try go_wp2)
                          go_meet
                          case rel => exact ⟨_, (true), rl_, H', ⟨by have := HJ4.out; have := HJ13.out; have := HK3.out; have := HJ31.out; first | omega | exact Nat.le_refl _⟩, ⟨bj_ BK203⟩, ⟨hb_⟩⟩
                         ·
                          rw [if_neg c49] at H
                          have c49b0 : decide ((((rd_T26 l0 t196).f0).size : Int) < (((rd_T26 l0 x43_3).f0).size : Int)) = false := decide_eq_false c49
                          have c49b1 : decide (((rd_T26 l0 t196).f0).size < ((rd_T26 l0 x43_3).f0).size) = false := decide_eq_false (fun h => c49 (Int.ofNat_lt.mpr h))
                          clear c49
                          by_cases c51 : (((rd_T26 l0 x43_3).f0).size : Int) = (((rd_T26 l0 t196).f0).size : Int)
                          ·
                           rw [if_pos c51] at H
                           have c51b0 : ((((rd_T26 l0 x43_3).f0).size : Int) == (((rd_T26 l0 t196).f0).size : Int)) = true := beq_iff_eq.mpr c51
                           have c51b1 : ((((rd_T26 l0 x43_3).f0).size : Int) != (((rd_T26 l0 t196).f0).size : Int)) = false := bne_eq_false_iff_eq.mpr c51
                           have c51b2 : (((rd_T26 l0 x43_3).f0).size == ((rd_T26 l0 t196).f0).size) = true := by first | simpa using c51 | (simp at c51 ⊢; omega)
                           clear c51
                           have H' := Aside0.mk H
                           clear H
                           have hcz52_0 := bc0 BK203
                           have hfz52_0 := blk_frozen BK203.out 0
                           have p204 : 0 ≤ (t196 : Int) := of_decide_eq_true (by assumption)
                           have q204 : t196 < (l0.length : Int) := of_decide_eq_true (by assumption)
                           obtain ⟨ad204, e204, hx204_0⟩ := at_T26 HR0.out t196 p204 q204
                           obtain rfl : ad202 = ad204 := (by injection e204)
                           replace hx204_0 := (HB.out.cell (World.block_lt_of_cell? w _ hx204_0)).trans hx204_0
                           replace p204 := eq_true p204
                           replace q204 := eq_true q204
                           have p205 : 0 ≤ (t196 : Int) := of_decide_eq_true (by assumption)
                           have q205 : t196 < (l0.length : Int) := of_decide_eq_true (by assumption)
                           obtain ⟨ad205, e205, hx205_0⟩ := at_T26 HR0.out t196 p205 q205
                           obtain rfl : ad202 = ad205 := (by injection e205)
                           replace hx205_0 := (HB.out.cell (World.block_lt_of_cell? w _ hx205_0)).trans hx205_0
                           replace p205 := eq_true p205
                           replace q205 := eq_true q205
                           go_wp2
                           repeat (go_quiet (fail); try go_wp2)
                           go_meet
                           case rel => exact ⟨_, (decide (x43_3 < t196)), rl_, H', ⟨by have := HJ4.out; have := HJ13.out; have := HK3.out; have := HJ31.out; first | omega | exact Nat.le_refl _⟩, ⟨bj_ BK203⟩, ⟨hb_⟩⟩
                          ·
                           rw [if_neg c51] at H
                           have c51b0 : ((((rd_T26 l0 x43_3).f0).size : Int) == (((rd_T26 l0 t196).f0).size : Int)) = false := beq_eq_false_iff_ne.mpr c51
                           have c51b1 : ((((rd_T26 l0 x43_3).f0).size : Int) != (((rd_T26 l0 t196).f0).size : Int)) = true := bne_iff_ne.mpr c51
                           have c51b2 : (((rd_T26 l0 x43_3).f0).size == ((rd_T26 l0 t196).f0).size) = false := by first | simpa using c51 | (simp at c51 ⊢; omega)
                           have H' := Aside0.mk H
                           clear H
                           have hcz53_0 := bc0 BK203
                           have hfz53_0 := blk_frozen BK203.out 0
                           have p204 : 0 ≤ (t196 : Int) := of_decide_eq_true (by assumption)
                           have q204 : t196 < (l0.length : Int) := of_decide_eq_true (by assumption)
                           obtain ⟨ad204, e204, hx204_0⟩ := at_T26 HR0.out t196 p204 q204
                           obtain rfl : ad202 = ad204 := (by injection e204)
                           replace hx204_0 := (HB.out.cell (World.block_lt_of_cell? w _ hx204_0)).trans hx204_0
                           replace p204 := eq_true p204
                           replace q204 := eq_true q204
                           have p205 : 0 ≤ (t196 : Int) := of_decide_eq_true (by assumption)
                           have q205 : t196 < (l0.length : Int) := of_decide_eq_true (by assumption)
                           obtain ⟨ad205, e205, hx205_0⟩ := at_T26 HR0.out t196 p205 q205
                           obtain rfl : ad202 = ad205 := (by injection e205)
                           replace hx205_0 := (HB.out.cell (World.block_lt_of_cell? w _ hx205_0)).trans hx205_0
                           replace p205 := eq_true p205
                           replace q205 := eq_true q205
                           go_wp2
                           repeat (go_quiet (fail); try go_wp2)
                           go_meet
                           case rel => exact ⟨_, (false), rl_, H', ⟨by have := HJ4.out; have := HJ13.out; have := HK3.out; have := HJ31.out; first | omega | exact Nat.le_refl _⟩, ⟨bj_ BK203⟩, ⟨hb_⟩⟩
                        ·
                         rw [if_neg c48] at H
                         exact absurd H (by simp)
                       ·
                        rw [if_neg c47] at H
                        exact absurd H (by simp)
                    ·
                     replace c44 := Bool.eq_false_iff.mpr c44
                     subst c44
                     have H1 : (hopmeshlaw14_CompressFinds.j4 kj31 l0 a1 t196 false l0 (l0.length : Int) x43_3 true) = some r := by rw [if_neg (show ¬ (false = true) by decide)] at H; exact H
                     clear H
                     have H := H1
                     clear H1
                     have H' := Aside0.mk H
                     clear H
                     go_wp2
                     repeat (go_quiet (fail); try go_wp2)
                     go_meet
                     case rel => exact ⟨_, (true), rl_, H', ⟨by have := HJ4.out; have := HJ13.out; have := HK3.out; have := HJ31.out; first | omega | exact Nat.le_refl _⟩, ⟨bj_ BK203⟩, ⟨hb_⟩⟩
                   case rest =>
                    clear HC42
                    try clear c1; try clear c2; try clear p2; try clear q2; try clear hx2; try clear c3; try clear c4; try clear c5; try clear p6; try clear c8; try clear c11; try clear c20; try clear c20b0; try clear c20b1; try clear p20; try clear q20; try clear hx20; try clear c27; try clear c28; try clear c28b0; try clear c28b1; try clear c29; try clear c29b0; try clear c30; try clear c30b0; try clear c31; try clear c31b0; try clear c35; try clear c35b0; try clear c35b1; try clear c38; try clear c39; try clear c39b0; try clear c39b1; try clear c40; try clear c40b0; try clear c40b1; try clear c41; try clear c41b0; try clear c41b1; try clear c44; try clear c45; try clear c45b0; try clear c46; try clear c46b0; try clear c47; try clear c47b0; try clear c48; try clear c48b0; try clear c49; try clear c49b0; try clear c49b1; try clear c51; try clear c51b0; try clear c51b1; try clear c51b2; try clear hcz34_0; try clear hcz36_0; try clear hcz37_0; try clear hcz43_0; try clear hcz50_0; try clear hcz52_0; try clear hcz53_0; try clear hfz34_0; try clear hfz36_0; try clear hfz37_0; try clear hfz43_0; try clear hfz50_0; try clear hfz52_0; try clear hfz53_0; try clear hx202_0; try clear hx204_0; try clear hx205_0; try clear p2; try clear p20; try clear p202; try clear p204; try clear p205; try clear q2; try clear q20; try clear q202; try clear q204; try clear q205
                    (repeat clear BK203); (repeat clear HB)
                    obtain ⟨kq, x112_41, rfl, HA, HJ41, BK203, HB⟩ := hcut
                    cases kq with
                    | zero => exact absurd HA.out (by simp [hopmeshlaw14_CompressFinds.j4])
                    | succ kj41 =>
                     have H := HA.out
                     clear HA
                     simp only [hopmeshlaw14_CompressFinds.j4] at H
                     by_cases c54 : x112_41 = true
                     ·
                      subst c54
                      have H1 : (some false) = some r := by rw [if_pos rfl] at H; exact H
                      clear H
                      have H := H1
                      clear H1
                      obtain rfl := Option.some.inj H
                      go_wp2
                      repeat (go_quiet (fail); try go_wp2)
                      go_ret
                      exact ⟨er_, hb_⟩
                     ·
                      replace c54 := Bool.eq_false_iff.mpr c54
                      subst c54
                      have H1 : (hopmeshlaw14_CompressFinds.l0 kj41 l0 a1 t196 t197 l0 (l0.length : Int) (wrap64 (x43_3 + 1))) = some r := by rw [if_neg (show ¬ (false = true) by decide)] at H; exact H
                      clear H
                      have H := H1
                      clear H1
                      have H' := Aside0.mk H
                      clear H
                      go_wp2
                      repeat (go_quiet (fail); try go_wp2)
                      go_roundg kj41
                      case measure => have := HJ4.out; have := HJ13.out; have := HK3.out; have := HJ31.out; have := HJ41.out; omega
                      case rel => exact ⟨(wrap64 (x43_3 + 1)), rl_, H', ⟨by have := HJ4.out; have := HJ13.out; have := HK3.out; have := HJ31.out; have := HJ41.out; omega⟩, ⟨hb_⟩⟩
                  ·
                   rw [if_neg c41] at H
                   have c41b0 : ((a1.extract 0 ((((rd_T26 l0 x43_3).f0).size : Int) : Int).toNat).toList == ((rd_T26 l0 x43_3).f0).toList) = false := beq_eq_false_iff_ne.mpr c41
                   try simp only [Int.toNat_natCast] at c41b0
                   have c41b1 : ((a1.extract 0 ((((rd_T26 l0 x43_3).f0).size : Int) : Int).toNat).toList != ((rd_T26 l0 x43_3).f0).toList) = true := bne_iff_ne.mpr c41
                   try simp only [Int.toNat_natCast] at c41b1
                   by_cases c55 : t197 = true
                   ·
                    subst c55
                    have H1 : (if x43_3 = t196 then (some false) else (hopmeshlaw14_CompressFinds.l0 kj31 l0 a1 t196 true l0 (l0.length : Int) (wrap64 (x43_3 + 1)))) = some r := by rw [if_pos rfl] at H; exact H
                    clear H
                    have H := H1
                    clear H1
                    by_cases c56 : x43_3 = t196
                    ·
                     rw [if_pos c56] at H
                     have c56b0 : (x43_3 == t196) = true := beq_iff_eq.mpr c56
                     have c56b1 : (x43_3 != t196) = false := bne_eq_false_iff_eq.mpr c56
                     clear c56
                     obtain rfl := Option.some.inj H
                     have hcz57_0 := bc0 BK203
                     have hfz57_0 := blk_frozen BK203.out 0
                     go_wp2
                     repeat (go_quiet (fail); try go_wp2)
                     go_ret
                     exact ⟨er_, hb_⟩
                    ·
                     rw [if_neg c56] at H
                     have c56b0 : (x43_3 == t196) = false := beq_eq_false_iff_ne.mpr c56
                     have c56b1 : (x43_3 != t196) = true := bne_iff_ne.mpr c56
                     have H' := Aside0.mk H
                     clear H
                     have hcz58_0 := bc0 BK203
                     have hfz58_0 := blk_frozen BK203.out 0
                     go_wp2
                     repeat (go_quiet (fail); try go_wp2)
                     go_roundg kj31
                     case measure => have := HJ4.out; have := HJ13.out; have := HK3.out; have := HJ31.out; omega
                     case rel => exact ⟨(wrap64 (x43_3 + 1)), rl_, H', ⟨by have := HJ4.out; have := HJ13.out; have := HK3.out; have := HJ31.out; omega⟩, ⟨hb_⟩⟩
                   ·
                    replace c55 := Bool.eq_false_iff.mpr c55
                    subst c55
                    have H1 : (hopmeshlaw14_CompressFinds.l0 kj31 l0 a1 t196 false l0 (l0.length : Int) (wrap64 (x43_3 + 1))) = some r := by rw [if_neg (show ¬ (false = true) by decide)] at H; exact H
                    clear H
                    have H := H1
                    clear H1
                    have H' := Aside0.mk H
                    clear H
                    have hcz59_0 := bc0 BK203
                    have hfz59_0 := blk_frozen BK203.out 0
                    go_wp2
                    repeat (go_quiet (fail); try go_wp2)
                    go_roundg kj31
                    case measure => have := HJ4.out; have := HJ13.out; have := HK3.out; have := HJ31.out; omega
                    case rel => exact ⟨(wrap64 (x43_3 + 1)), rl_, H', ⟨by have := HJ4.out; have := HJ13.out; have := HK3.out; have := HJ31.out; omega⟩, ⟨hb_⟩⟩
                 ·
                  rw [if_neg c40] at H
                  exact absurd H (by simp)
                ·
                 rw [if_neg c39] at H
                 exact absurd H (by simp)
            ·
             rw [if_neg c31] at H
             exact absurd H (by simp)
           ·
            rw [if_neg c30] at H
            exact absurd H (by simp)
          ·
           rw [if_neg c29] at H
           have c29b0 : decide (x43_3 < (l0.length : Int)) = false := decide_eq_false c29
           clear c29
           by_cases c60 : t197 = true
           ·
            subst c60
            have H1 : (some true) = some r := by rw [if_pos rfl] at H; exact H
            clear H
            have H := H1
            clear H1
            obtain rfl := Option.some.inj H
            go_wp2
            repeat (go_quiet (fail); try go_wp2)
            go_ret
            exact ⟨er_, hb_⟩
           ·
            replace c60 := Bool.eq_false_iff.mpr c60
            subst c60
            have H1 : (some (t196 == 0)) = some r := by rw [if_neg (show ¬ (false = true) by decide)] at H; exact H
            clear H
            have H := H1
            clear H1
            obtain rfl := Option.some.inj H
            go_wp2
            repeat (go_quiet (fail); try go_wp2)
            go_ret
            exact ⟨er_, hb_⟩
 ·
  replace c4 := Bool.eq_false_iff.mpr c4
  subst c4
  have H1 : (some false) = some r := by rw [if_neg (show ¬ (false = true) by decide)] at H; exact H
  clear H
  have H := H1
  clear H1
  obtain rfl := Option.some.inj H
  go_enter Try.func5, Try.ntmps5
  go_wp2_with (first | (go_at_call 10; (with_reducible refine (hopmeshlaw14_awake.calls k  false _ A3.out).mono ?_); rintro e w61 ⟨rfl, hb⟩; have n0_ := Aside0.mk (below_step hb_ hb); clear HB; have HB := n0_; clear n0_; (try clear hb); (try clear hb2); (try clear hk); (try clear hi)))
  repeat (go_quiet (first | (go_at_call 10; (with_reducible refine (hopmeshlaw14_awake.calls k  false _ A3.out).mono ?_); rintro e w61 ⟨rfl, hb⟩; have n0_ := Aside0.mk (below_step hb_ hb); clear HB; have HB := n0_; clear n0_; (try clear hb); (try clear hb2); (try clear hk); (try clear hi))); try go_wp2_with (first | (go_at_call 10; (with_reducible refine (hopmeshlaw14_awake.calls k  false _ A3.out).mono ?_); rintro e w61 ⟨rfl, hb⟩; have n0_ := Aside0.mk (below_step hb_ hb); clear HB; have HB := n0_; clear n0_; (try clear hb); (try clear hb2); (try clear hk); (try clear hi))))
  go_ret
  exact ⟨er_, hb_⟩

end Go.Proofs.Ytmbbijhppgkdfaa.P14
