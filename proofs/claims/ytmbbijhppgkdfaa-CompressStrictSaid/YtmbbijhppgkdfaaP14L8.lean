-- Written by a program of this session (wip/tools) over the kit's print; Lean checks it.
import Derived.Test.YtmbbijhppgkdfaaP140
import Derived.Test.YtmbbijhppgkdfaaP14Eq0
import Derived.Test.YtmbbijhppgkdfaaP14Aw
import Derived.Test.YtmbbijhppgkdfaaP14Ck
import Derived.Test.YtmbbijhppgkdfaaGclone
import Derived.Test.YtmbbijhppgkdfaaGcomp
import Derived.Test.YtmbbijhppgkdfaaGexp
import Derived.Test.YtmbbijhppgkdfaaGfew
namespace Go.Proofs.Ytmbbijhppgkdfaa.P14
open Go.RowKit Go.Proofs.YtmbbijhppgkdfaaW.PrintWords Go.Proofs.YtmbbijhppgkdfaaW.PrintLast Go.Proofs.YtmbbijhppgkdfaaW.PrintMore
attribute [local go_sem] max2_int min2_int max_two min_two max_three min_three max_four min_four   -- for this text's walks alone
set_option linter.unusedVariables false
set_option linter.unusedSimpArgs false

attribute [local go_sem high] eqA24
/-! ### hopmeshlaw14_CompressStrict: function 8 -/
def hopmeshlaw14_CompressStrict.j0 : Nat → List (S26) → ByteArray → Bool → Option (Bool)
 | 0, _, _, _ => none
 | k + 1, x0, x1, x19 => if x19 = true then (some true) else ((api_Context.f x0).bind fun t402 => ((compress_Expand.f t402 x1).bind fun bt405 => (if bt405.2.2.2.2.2.2.2.2 = 0 then ((api_Context.f x0).bind fun t415 => ((compress_Compress.f t415 bt405.1 bt405.2.1 bt405.2.2.1 bt405.2.2.2.1 bt405.2.2.2.2.1 bt405.2.2.2.2.2.1 bt405.2.2.2.2.2.2.1).bind fun bt418 => (if bt418.2 = 0 then (if bt418.1.size + bt405.2.2.2.2.2.2.2.1.size ≤ 9223372036854775807 then (if (bt418.1 ++ bt405.2.2.2.2.2.2.2.1).toList = x1.toList then ((compress_Check.f k bt405.1 bt405.2.1 bt405.2.2.1 bt405.2.2.2.1 bt405.2.2.2.2.1 bt405.2.2.2.2.2.1 bt405.2.2.2.2.2.2.1).bind fun t420 => (some (t420 == 0))) else (some false)) else (none)) else (some false)))) else (if (bt405.1 == 0 && (bt405.2.1 == 0 && (bt405.2.2.1.toList == ([] : List UInt8) && (bt405.2.2.2.1.toList == ([] : List UInt8) && (bt405.2.2.2.2.1 == 0 && (bt405.2.2.2.2.2.1 == 0 && (bt405.2.2.2.2.2.2.1 == 0))))))) = true then (some (bt405.2.2.2.2.2.2.2.1.toList == ([] : List UInt8))) else (some false)))))
def hopmeshlaw14_CompressStrict.f (k : Nat) (l0 : List (S26)) (a1 : ByteArray) : Option (Bool) := (hopmeshlaw14_awake.f k).bind fun t400 => (if t400 = true then ((hopmeshlaw14_few.f l0).bind fun t401 => (if t401 = true then (hopmeshlaw14_CompressStrict.j0 k l0 a1 (decide ((a1.size : Int) > 100))) else (hopmeshlaw14_CompressStrict.j0 k l0 a1 true))) else (some false))
theorem hopmeshlaw14_CompressStrict.mono_l : ∀ k, (∀ y0 y1 y2, LeO (hopmeshlaw14_CompressStrict.j0 k y0 y1 y2) (hopmeshlaw14_CompressStrict.j0 (k + 1) y0 y1 y2))
 | 0 => fun _ _ _ r h => by simp [hopmeshlaw14_CompressStrict.j0] at h
 | k + 1 => by
  have ih0 := hopmeshlaw14_CompressStrict.mono_l k
  ·
   intro y0 y1 y2
   unfold hopmeshlaw14_CompressStrict.j0
   repeat' first
   | (with_reducible exact ih0 _ _ _)
   | (with_reducible exact compress_Check.mono _ _ _ _ _ _ _ _)
   | (with_reducible exact hopmeshlaw14_awake.mono _)
   | (with_reducible exact LeO.refl _)
   | (with_reducible exact LeO.none _)
   | (with_reducible refine LeO.ite ?_ ?_)
   | (with_reducible refine LeO.bind ?_ (fun _ => ?_))
   | exact ih0 _ _ _
   | exact compress_Check.mono _ _ _ _ _ _ _ _
   | exact hopmeshlaw14_awake.mono _
   | exact LeO.none _
   | refine LeO.ite ?_ ?_
   | refine LeO.bind ?_ (fun _ => ?_)
theorem hopmeshlaw14_CompressStrict.mono : ∀ a0 a1 k, LeO (hopmeshlaw14_CompressStrict.f k a0 a1) (hopmeshlaw14_CompressStrict.f (k + 1) a0 a1) := by
 intro a0 a1 k
 have ih0 := hopmeshlaw14_CompressStrict.mono_l k
 unfold hopmeshlaw14_CompressStrict.f
 repeat' first
   | (with_reducible exact ih0 _ _ _)
   | (with_reducible exact compress_Check.mono _ _ _ _ _ _ _ _)
   | (with_reducible exact hopmeshlaw14_awake.mono _)
   | (with_reducible exact LeO.refl _)
   | (with_reducible exact LeO.none _)
   | (with_reducible refine LeO.ite ?_ ?_)
   | (with_reducible refine LeO.bind ?_ (fun _ => ?_))
   | exact ih0 _ _ _
   | exact compress_Check.mono _ _ _ _ _ _ _ _
   | exact hopmeshlaw14_awake.mono _
   | exact LeO.none _
   | refine LeO.ite ?_ ?_
   | refine LeO.bind ?_ (fun _ => ?_)
def hopmeshlaw14_CompressStrict.T8 : Bool × List (List Nat × List Nat) := (true, [([], []), ([0], [0]), ([], []), ([1, 2, 1], [1, 2]), ([3], [3]), ([4], [4]), ([4], [4]), ([5, 3, 0, 1, 2, 3, 4, 5], [5]), ([6, 7, 0, 1, 2, 3, 4, 5, 6, 7], [6])])
def hopmeshlaw14_CompressStrict.B8 : List Nat := [0, 1, 0, 7, 15, 31, 31, 63, 255]
theorem hopmeshlaw14_CompressStrict.tab8 : rtab .any (opsOf Try.f8 8) = hopmeshlaw14_CompressStrict.T8 := by kernel_rfl
theorem hopmeshlaw14_CompressStrict.bits8 : waitsOk hopmeshlaw14_CompressStrict.T8.2 hopmeshlaw14_CompressStrict.B8 = true := by kernel_rfl
set_option maxHeartbeats 8000000 in
set_option maxRecDepth 100000 in
theorem hopmeshlaw14_CompressStrict.calls (k : Nat) (A0 : Option Addr) (c0 : Nat) (l0 : List (S26)) (a1 : ByteArray) (r : Bool) (w : World) (hr0 : Kd.C k26 w A0 l0.length l0) (hc0 : l0.length ≤ c0) (h : hopmeshlaw14_CompressStrict.f k l0 a1 = some r) :
  Calls Try.prog 8 #[.slice A0 l0.length c0, .string a1] w fun e w' => e = .returned (.bool r) ∧ Below w.heap.size w w' := by
 have hu24 := Try.underlying24
 have HR0 := Aside0.mk hr0
 have HC0 := Aside0.mk hc0
 clear hr0 hc0
 have HB := Aside0.mk (Below.refl w.heap.size w)
 have H : ((hopmeshlaw14_awake.f k).bind fun t400 => (if t400 = true then ((hopmeshlaw14_few.f l0).bind fun t401 => (if t401 = true then (hopmeshlaw14_CompressStrict.j0 k l0 a1 (decide ((a1.size : Int) > 100))) else (hopmeshlaw14_CompressStrict.j0 k l0 a1 true))) else (some false))) = some r := h
 clear h
 replace H := Option.bind_eq_some_iff.mp H
 obtain ⟨t400, A30, H⟩ := H
 replace H : (if t400 = true then ((hopmeshlaw14_few.f l0).bind fun t401 => (if t401 = true then (hopmeshlaw14_CompressStrict.j0 k l0 a1 (decide ((a1.size : Int) > 100))) else (hopmeshlaw14_CompressStrict.j0 k l0 a1 true))) else (some false)) = some r := H
 have A3 := Aside0.mk A30
 clear A30
 by_cases c4 : t400 = true
 ·
  subst c4
  have H1 : ((hopmeshlaw14_few.f l0).bind fun t401 => (if t401 = true then (hopmeshlaw14_CompressStrict.j0 k l0 a1 (decide ((a1.size : Int) > 100))) else (hopmeshlaw14_CompressStrict.j0 k l0 a1 true))) = some r := by rw [if_pos rfl] at H; exact H
  clear H
  have H := H1
  clear H1
  have HC5 := Aside0.mk H
  clear H
  go_enter Try.func8, Try.ntmps8
  go_upto_region 3 with (first | ((with_reducible refine gate_callee (f := 10) rfl ?_); refine goesL_ (some 10) rfl rfl Try.func10 (by kernel_rfl) rfl #[] rfl am_ ?_; (with_reducible refine (hopmeshlaw14_awake.calls k  true _ A3.out).mono ?_); rintro e w6 ⟨rfl, hb⟩; refine ⟨_, rfl, ?_⟩; have n0_ := Aside0.mk (below_step hb_ hb); clear HB; have HB := n0_; clear n0_; (try clear hb); (try clear hb2); (try clear hk); (try clear hi)))
  (try simp only [Act.put, List.setIfInBounds_toArray, List.set_cons_zero, List.set_cons_succ])
  go_cut [19] (fun v19 wc => ∃ (kq : Nat) (x19_4 : Bool), v19 = .bool x19_4 ∧ Aside0 (hopmeshlaw14_CompressStrict.j0 kq l0 a1 x19_4 = some r) ∧ Aside0 (kq ≤ k) ∧ Aside0 (Below w.heap.size w wc))
  case first =>
   have H := HC5.out
   clear HC5
   replace H := Option.bind_eq_some_iff.mp H
   obtain ⟨t401, A70, H⟩ := H
   replace H : (if t401 = true then (hopmeshlaw14_CompressStrict.j0 k l0 a1 (decide ((a1.size : Int) > 100))) else (hopmeshlaw14_CompressStrict.j0 k l0 a1 true)) = some r := H
   have A7 := Aside0.mk A70
   clear A70
   by_cases c8 : t401 = true
   ·
    subst c8
    have H1 : (hopmeshlaw14_CompressStrict.j0 k l0 a1 (decide ((a1.size : Int) > 100))) = some r := by rw [if_pos rfl] at H; exact H
    clear H
    have H := H1
    clear H1
    have H' := Aside0.mk H
    clear H
    go_wp2_with (first | ((with_reducible refine gate_callee (f := 11) rfl ?_); refine goesL_ (some 13) rfl rfl Try.func11 (by kernel_rfl) rfl #[.slice A0 l0.length c0] rfl am_ ?_; (with_reducible refine (hopmeshlaw14_few.calls _ _ l0 true _ ?side1 ?side2 A7.out).mono ?_); (case side1 => repeat (first | exact (Kd.C_below HR0.out HB.out) | (with_reducible refine Kd.C_alloc ?_ _) | (with_reducible refine Kd.C_drewN ?_ _) | (with_reducible refine Kd.C_drew ?_))); (case side2 => exact HC0.out); rintro e w9 ⟨rfl, hb⟩; refine ⟨_, rfl, ?_⟩; have n0_ := Aside0.mk (below_step hb_ hb); clear HB; have HB := n0_; clear n0_; (try clear hb); (try clear hb2); (try clear hk); (try clear hi)))
    go_meet
    case rel => exact ⟨_, (decide ((a1.size : Int) > 100)), rl_, H', ⟨by first | omega | exact Nat.le_refl _⟩, ⟨hb_⟩⟩
   ·
    replace c8 := Bool.eq_false_iff.mpr c8
    subst c8
    have H1 : (hopmeshlaw14_CompressStrict.j0 k l0 a1 true) = some r := by rw [if_neg (show ¬ (false = true) by decide)] at H; exact H
    clear H
    have H := H1
    clear H1
    have H' := Aside0.mk H
    clear H
    go_wp2_with (first | ((with_reducible refine gate_callee (f := 11) rfl ?_); refine goesL_ (some 13) rfl rfl Try.func11 (by kernel_rfl) rfl #[.slice A0 l0.length c0] rfl am_ ?_; (with_reducible refine (hopmeshlaw14_few.calls _ _ l0 false _ ?side1 ?side2 A7.out).mono ?_); (case side1 => repeat (first | exact (Kd.C_below HR0.out HB.out) | (with_reducible refine Kd.C_alloc ?_ _) | (with_reducible refine Kd.C_drewN ?_ _) | (with_reducible refine Kd.C_drew ?_))); (case side2 => exact HC0.out); rintro e w10 ⟨rfl, hb⟩; refine ⟨_, rfl, ?_⟩; have n0_ := Aside0.mk (below_step hb_ hb); clear HB; have HB := n0_; clear n0_; (try clear hb); (try clear hb2); (try clear hk); (try clear hi)))
    go_meet
    case rel => exact ⟨_, (true), rl_, H', ⟨by first | omega | exact Nat.le_refl _⟩, ⟨hb_⟩⟩
  case rest =>
   clear HC5
   try clear c1; try clear p2; try clear c4; try clear c8; try clear c10
   (repeat clear HB)
   obtain ⟨kq, x19_4, rfl, HA, HJ4, HB⟩ := hcut
   cases kq with
   | zero => exact absurd HA.out (by simp [hopmeshlaw14_CompressStrict.j0])
   | succ kj4 =>
    have H := HA.out
    clear HA
    simp only [hopmeshlaw14_CompressStrict.j0] at H
    by_cases c11 : x19_4 = true
    ·
     subst c11
     have H1 : (some true) = some r := by rw [if_pos rfl] at H; exact H
     clear H
     have H := H1
     clear H1
     obtain rfl := Option.some.inj H
     go_wp2
     go_ret
     exact ⟨er_, hb_⟩
    ·
     replace c11 := Bool.eq_false_iff.mpr c11
     subst c11
     have H1 : ((api_Context.f l0).bind fun t402 => ((compress_Expand.f t402 a1).bind fun bt405 => (if bt405.2.2.2.2.2.2.2.2 = 0 then ((api_Context.f l0).bind fun t415 => ((compress_Compress.f t415 bt405.1 bt405.2.1 bt405.2.2.1 bt405.2.2.2.1 bt405.2.2.2.2.1 bt405.2.2.2.2.2.1 bt405.2.2.2.2.2.2.1).bind fun bt418 => (if bt418.2 = 0 then (if bt418.1.size + bt405.2.2.2.2.2.2.2.1.size ≤ 9223372036854775807 then (if (bt418.1 ++ bt405.2.2.2.2.2.2.2.1).toList = a1.toList then ((compress_Check.f kj4 bt405.1 bt405.2.1 bt405.2.2.1 bt405.2.2.2.1 bt405.2.2.2.2.1 bt405.2.2.2.2.2.1 bt405.2.2.2.2.2.2.1).bind fun t420 => (some (t420 == 0))) else (some false)) else (none)) else (some false)))) else (if (bt405.1 == 0 && (bt405.2.1 == 0 && (bt405.2.2.1.toList == ([] : List UInt8) && (bt405.2.2.2.1.toList == ([] : List UInt8) && (bt405.2.2.2.2.1 == 0 && (bt405.2.2.2.2.2.1 == 0 && (bt405.2.2.2.2.2.2.1 == 0))))))) = true then (some (bt405.2.2.2.2.2.2.2.1.toList == ([] : List UInt8))) else (some false))))) = some r := by rw [if_neg (show ¬ (false = true) by decide)] at H; exact H
     clear H
     have H := H1
     clear H1
     replace H := Option.bind_eq_some_iff.mp H
     obtain ⟨t402, A120, H⟩ := H
     replace H : ((compress_Expand.f t402 a1).bind fun bt405 => (if bt405.2.2.2.2.2.2.2.2 = 0 then ((api_Context.f l0).bind fun t415 => ((compress_Compress.f t415 bt405.1 bt405.2.1 bt405.2.2.1 bt405.2.2.2.1 bt405.2.2.2.2.1 bt405.2.2.2.2.2.1 bt405.2.2.2.2.2.2.1).bind fun bt418 => (if bt418.2 = 0 then (if bt418.1.size + bt405.2.2.2.2.2.2.2.1.size ≤ 9223372036854775807 then (if (bt418.1 ++ bt405.2.2.2.2.2.2.2.1).toList = a1.toList then ((compress_Check.f kj4 bt405.1 bt405.2.1 bt405.2.2.1 bt405.2.2.2.1 bt405.2.2.2.2.1 bt405.2.2.2.2.2.1 bt405.2.2.2.2.2.2.1).bind fun t420 => (some (t420 == 0))) else (some false)) else (none)) else (some false)))) else (if (bt405.1 == 0 && (bt405.2.1 == 0 && (bt405.2.2.1.toList == ([] : List UInt8) && (bt405.2.2.2.1.toList == ([] : List UInt8) && (bt405.2.2.2.2.1 == 0 && (bt405.2.2.2.2.2.1 == 0 && (bt405.2.2.2.2.2.2.1 == 0))))))) = true then (some (bt405.2.2.2.2.2.2.2.1.toList == ([] : List UInt8))) else (some false)))) = some r := H
     have A12 := Aside0.mk A120
     clear A120
     replace H := Option.bind_eq_some_iff.mp H
     obtain ⟨⟨t405, t406, t407, t408, t409, t410, t411, t412, t413⟩, A130, H⟩ := H
     replace H : (if t413 = 0 then ((api_Context.f l0).bind fun t415 => ((compress_Compress.f t415 t405 t406 t407 t408 t409 t410 t411).bind fun bt418 => (if bt418.2 = 0 then (if bt418.1.size + t412.size ≤ 9223372036854775807 then (if (bt418.1 ++ t412).toList = a1.toList then ((compress_Check.f kj4 t405 t406 t407 t408 t409 t410 t411).bind fun t420 => (some (t420 == 0))) else (some false)) else (none)) else (some false)))) else (if (t405 == 0 && (t406 == 0 && (t407.toList == ([] : List UInt8) && (t408.toList == ([] : List UInt8) && (t409 == 0 && (t410 == 0 && (t411 == 0))))))) = true then (some (t412.toList == ([] : List UInt8))) else (some false))) = some r := H
     have A13 := Aside0.mk A130
     clear A130
     by_cases c14 : t413 = 0
     ·
      rw [if_pos c14] at H
      have c14b0 : (t413 == 0) = true := beq_iff_eq.mpr c14
      have c14b1 : (t413 != 0) = false := bne_eq_false_iff_eq.mpr c14
      clear c14
      replace H := Option.bind_eq_some_iff.mp H
      obtain ⟨t415, A150, H⟩ := H
      replace H : ((compress_Compress.f t415 t405 t406 t407 t408 t409 t410 t411).bind fun bt418 => (if bt418.2 = 0 then (if bt418.1.size + t412.size ≤ 9223372036854775807 then (if (bt418.1 ++ t412).toList = a1.toList then ((compress_Check.f kj4 t405 t406 t407 t408 t409 t410 t411).bind fun t420 => (some (t420 == 0))) else (some false)) else (none)) else (some false))) = some r := H
      have A15 := Aside0.mk A150
      clear A150
      replace H := Option.bind_eq_some_iff.mp H
      obtain ⟨⟨t418, t419⟩, A160, H⟩ := H
      replace H : (if t419 = 0 then (if t418.size + t412.size ≤ 9223372036854775807 then (if (t418 ++ t412).toList = a1.toList then ((compress_Check.f kj4 t405 t406 t407 t408 t409 t410 t411).bind fun t420 => (some (t420 == 0))) else (some false)) else (none)) else (some false)) = some r := H
      have A16 := Aside0.mk A160
      clear A160
      by_cases c17 : t419 = 0
      ·
       rw [if_pos c17] at H
       have c17b0 : (t419 == 0) = true := beq_iff_eq.mpr c17
       have c17b1 : (t419 != 0) = false := bne_eq_false_iff_eq.mpr c17
       clear c17
       by_cases c18 : t418.size + t412.size ≤ 9223372036854775807
       ·
        rw [if_pos c18] at H
        have c18b0 := eq_true c18
        have c18b1 : decide (t418.size + t412.size ≤ 9223372036854775807) = true := decide_eq_true c18
        try have c18b2 : (9223372036854775807 < t418.size + t412.size) = False := eq_false (Nat.not_lt.2 c18)
        by_cases c19 : (t418 ++ t412).toList = a1.toList
        ·
         rw [if_pos c19] at H
         have c19b0 : ((t418 ++ t412).toList == a1.toList) = true := beq_iff_eq.mpr c19
         have c19b1 : ((t418 ++ t412).toList != a1.toList) = false := bne_eq_false_iff_eq.mpr c19
         clear c19
         replace H := Option.bind_eq_some_iff.mp H
         obtain ⟨t420, A200, H⟩ := H
         replace H : (some (t420 == 0)) = some r := H
         have A20 := Aside0.mk A200
         clear A200
         obtain rfl := Option.some.inj H
         try go_wp2_with (first | ((with_reducible refine gate_callee (f := 14) rfl ?_); refine goesL_ (some 22) rfl rfl Try.func14 (by kernel_rfl) rfl #[.slice A0 l0.length c0] rfl am_ ?_; (with_reducible refine (api_Context.calls _ _ l0 t402 _ ?side1 ?side2 A12.out).mono ?_); (case side1 => repeat (first | exact (Kd.C_below HR0.out HB.out) | (with_reducible refine Kd.C_alloc ?_ _) | (with_reducible refine Kd.C_drewN ?_ _) | (with_reducible refine Kd.C_drew ?_))); (case side2 => exact HC0.out); rintro e w21 ⟨v403, rfl, ho0, hb⟩; refine ⟨_, rfl, ?_⟩; have n0_ := Aside0.mk (Kd.R_lower ho0 (below_size hb_)); have n1_ := Aside0.mk (below_step hb_ hb); clear HB; have HO404 := n0_; have HB := n1_; clear n0_ n1_; (try clear hb); (try clear hb2); (try clear hk); (try clear hi); (try clear ho0); obtain ⟨Ao22, co22, eo22⟩ := Kd.R_slice HO404.out; subst eo22) | ((with_reducible refine gate_callee (f := 24) rfl ?_); refine goesL_ (some 24) rfl rfl Try.func24 (by kernel_rfl) rfl #[.slice Ao22 t402.length co22, .string a1] rfl am_ ?_; (with_reducible refine (compress_Expand.calls _ _ t402 a1 t405 t406 t407 t408 t409 t410 t411 t412 t413 _ ?side1 ?side2 A13.out).mono ?_); (case side1 => repeat (first | exact (Kd.R_reads' HO404.out).2.2 | (with_reducible refine Kd.C_alloc ?_ _) | (with_reducible refine Kd.C_drewN ?_ _) | (with_reducible refine Kd.C_drew ?_))); (case side2 => exact (Kd.R_reads' HO404.out).2.1); rintro e w23 ⟨rfl, hb⟩; refine ⟨_, rfl, ?_⟩; have n0_ := Aside0.mk (Kd.R_below (kr_ HO404) hb); have n1_ := Aside0.mk (below_step hb_ hb); clear HO404; clear HB; have HO404 := n0_; have HB := n1_; clear n0_ n1_; (try clear hb); (try clear hb2); (try clear hk); (try clear hi)) | ((with_reducible refine gate_dst (N := 5) rfl ?_); refine bx_ 5 #[.int .i64 0, .int .i64 0, .string (⟨#[]⟩ : ByteArray), .string (⟨#[]⟩ : ByteArray), .int .i64 0, .int .i64 0, .int .i64 0] 24 ?_; intro gb414 hg w24 hbox hb; have n0_ := Aside0.mk (Kd.R_below (kr_ HO404) hb); have n1_ := Aside0.mk (below_step hb_ hb); have n2_ := Aside0.mk (hbox); have n3_ := Aside0.mk ((by rw [hg]; exact (below_size hb_) : w.heap.size ≤ gb414)); have n4_ := Aside0.mk ((by rw [hg]; exact (below_size hb_) : w.heap.size ≤ gb414)); clear HO404; clear HB; have HO404 := n0_; have HB := n1_; have BK414 := n2_; have GW414 := n3_; have GE414 := n4_; clear n0_ n1_ n2_ n3_ n4_; clear hb hbox hg; have hcz25_0 := bc0 BK414; have hcz25_1 := bc1 BK414; have hcz25_2 := bc2 BK414; have hcz25_3 := bc3 BK414; have hcz25_4 := bc4 BK414; have hcz25_5 := bc5 BK414; have hcz25_6 := bc6 BK414; have hfz25_0 := blk_frozen BK414.out 0; have hfz25_1 := blk_frozen BK414.out 1; have hfz25_2 := blk_frozen BK414.out 2; have hfz25_3 := blk_frozen BK414.out 3; have hfz25_4 := blk_frozen BK414.out 4; have hfz25_5 := blk_frozen BK414.out 5; have hfz25_6 := blk_frozen BK414.out 6))
         have n0_ : Aside0 (Kd.R k26 26 (((((((w24.setCell ⟨gb414, 0, none⟩ (.int .i64 t405)).setCell ⟨gb414, 1, none⟩ (.int .i64 t406)).setCell ⟨gb414, 2, none⟩ (.string t407)).setCell ⟨gb414, 3, none⟩ (.string t408)).setCell ⟨gb414, 4, none⟩ (.int .i64 t409)).setCell ⟨gb414, 5, none⟩ (.int .i64 t410)).setCell ⟨gb414, 6, none⟩ (.int .i64 t411)) w.heap.size (fun _ => True) (.slice Ao22 t402.length co22) t402) := ⟨by (with_reducible repeat (first | apply Kd.R_alloc | apply Kd.R_drewN | apply Kd.R_drew)); exact Kd.R_mono (Kd.R_far (p := ⟨gb414, 6, none⟩) (Kd.R_far (p := ⟨gb414, 5, none⟩) (Kd.R_far (p := ⟨gb414, 4, none⟩) (Kd.R_far (p := ⟨gb414, 3, none⟩) (Kd.R_far (p := ⟨gb414, 2, none⟩) (Kd.R_far (p := ⟨gb414, 1, none⟩) (Kd.R_far (p := ⟨gb414, 0, none⟩) (Kd.R_types HO404.out BK414.out (by decide)) (fun _ hk => hk.2) (.int .i64 t405)) (fun _ hk => hk.2) (.int .i64 t406)) (fun _ hk => hk.2) (.string t407)) (fun _ hk => hk.2) (.string t408)) (fun _ hk => hk.2) (.int .i64 t409)) (fun _ hk => hk.2) (.int .i64 t410)) (fun _ hk => hk.2) (.int .i64 t411)) (fun _ hk => trivial)⟩
         have n1_ : Aside0 ((((((((w24.setCell ⟨gb414, 0, none⟩ (.int .i64 t405)).setCell ⟨gb414, 1, none⟩ (.int .i64 t406)).setCell ⟨gb414, 2, none⟩ (.string t407)).setCell ⟨gb414, 3, none⟩ (.string t408)).setCell ⟨gb414, 4, none⟩ (.int .i64 t409)).setCell ⟨gb414, 5, none⟩ (.int .i64 t410)).setCell ⟨gb414, 6, none⟩ (.int .i64 t411)).heap[gb414]? = some (.cells #[.int .i64 t405, .int .i64 t406, .string t407, .string t408, .int .i64 t409, .int .i64 t410, .int .i64 t411] 24 (0, 0))) := ⟨by (with_reducible repeat (first | refine blk_drewN ?_ _ | refine blk_drew ?_ | refine blk_alloc ?_ _)); refine blk_put (cs := #[.int .i64 t405, .int .i64 t406, .string t407, .string t408, .int .i64 t409, .int .i64 t410, .int .i64 0]) ?_ 6 _ rfl; (with_reducible repeat (first | refine blk_drewN ?_ _ | refine blk_drew ?_ | refine blk_alloc ?_ _)); refine blk_put (cs := #[.int .i64 t405, .int .i64 t406, .string t407, .string t408, .int .i64 t409, .int .i64 0, .int .i64 0]) ?_ 5 _ rfl; (with_reducible repeat (first | refine blk_drewN ?_ _ | refine blk_drew ?_ | refine blk_alloc ?_ _)); refine blk_put (cs := #[.int .i64 t405, .int .i64 t406, .string t407, .string t408, .int .i64 0, .int .i64 0, .int .i64 0]) ?_ 4 _ rfl; (with_reducible repeat (first | refine blk_drewN ?_ _ | refine blk_drew ?_ | refine blk_alloc ?_ _)); refine blk_put (cs := #[.int .i64 t405, .int .i64 t406, .string t407, .string (⟨#[]⟩ : ByteArray), .int .i64 0, .int .i64 0, .int .i64 0]) ?_ 3 _ rfl; (with_reducible repeat (first | refine blk_drewN ?_ _ | refine blk_drew ?_ | refine blk_alloc ?_ _)); refine blk_put (cs := #[.int .i64 t405, .int .i64 t406, .string (⟨#[]⟩ : ByteArray), .string (⟨#[]⟩ : ByteArray), .int .i64 0, .int .i64 0, .int .i64 0]) ?_ 2 _ rfl; (with_reducible repeat (first | refine blk_drewN ?_ _ | refine blk_drew ?_ | refine blk_alloc ?_ _)); refine blk_put (cs := #[.int .i64 t405, .int .i64 0, .string (⟨#[]⟩ : ByteArray), .string (⟨#[]⟩ : ByteArray), .int .i64 0, .int .i64 0, .int .i64 0]) ?_ 1 _ rfl; (with_reducible repeat (first | refine blk_drewN ?_ _ | refine blk_drew ?_ | refine blk_alloc ?_ _)); refine blk_put (cs := #[.int .i64 0, .int .i64 0, .string (⟨#[]⟩ : ByteArray), .string (⟨#[]⟩ : ByteArray), .int .i64 0, .int .i64 0, .int .i64 0]) ?_ 0 _ rfl; (with_reducible repeat (first | refine blk_drewN ?_ _ | refine blk_drew ?_ | refine blk_alloc ?_ _)); exact BK414.out⟩
         have n2_ : Aside0 (Below w.heap.size w (((((((w24.setCell ⟨gb414, 0, none⟩ (.int .i64 t405)).setCell ⟨gb414, 1, none⟩ (.int .i64 t406)).setCell ⟨gb414, 2, none⟩ (.string t407)).setCell ⟨gb414, 3, none⟩ (.string t408)).setCell ⟨gb414, 4, none⟩ (.int .i64 t409)).setCell ⟨gb414, 5, none⟩ (.int .i64 t410)).setCell ⟨gb414, 6, none⟩ (.int .i64 t411))) := ⟨hb_⟩
         (try clear HO404)
         (try clear BK414)
         (try clear HB)
         generalize (((((((w24.setCell ⟨gb414, 0, none⟩ (.int .i64 t405)).setCell ⟨gb414, 1, none⟩ (.int .i64 t406)).setCell ⟨gb414, 2, none⟩ (.string t407)).setCell ⟨gb414, 3, none⟩ (.string t408)).setCell ⟨gb414, 4, none⟩ (.int .i64 t409)).setCell ⟨gb414, 5, none⟩ (.int .i64 t410)).setCell ⟨gb414, 6, none⟩ (.int .i64 t411)) = w26 at n0_ n1_ n2_ ⊢
         have HO404 := n0_
         have BK414 := n1_
         have HB := n2_
         clear n0_ n1_ n2_
         have n0_ := Aside0.mk (Kd.R_drew HO404.out)
         have n1_ := Aside0.mk (blk_drew BK414.out)
         have n2_ := Aside0.mk (below_drew1 HB.out)
         clear HO404
         clear BK414
         clear HB
         have HO404 := n0_
         have BK414 := n1_
         have HB := n2_
         clear n0_ n1_ n2_
         refine start_ (n := 9) (S := fun w' => w'.cell? ⟨gb414, 0, none⟩ = some (.int .i64 t405) ∧ w'.cell? ⟨gb414, 1, none⟩ = some (.int .i64 t406) ∧ w'.cell? ⟨gb414, 2, none⟩ = some (.string t407) ∧ w'.cell? ⟨gb414, 3, none⟩ = some (.string t408) ∧ w'.cell? ⟨gb414, 4, none⟩ = some (.int .i64 t409) ∧ w'.cell? ⟨gb414, 5, none⟩ = some (.int .i64 t410) ∧ w'.cell? ⟨gb414, 6, none⟩ = some (.int .i64 t411)) (ds := []) #[false, false, false, false, false, false, false, false, false] (by kernel_rfl) rfl rfl ⟨(blk_cell BK414.out 0).trans rfl, (blk_cell BK414.out 1).trans rfl, (blk_cell BK414.out 2).trans rfl, (blk_cell BK414.out 3).trans rfl, (blk_cell BK414.out 4).trans rfl, (blk_cell BK414.out 5).trans rfl, (blk_cell BK414.out 6).trans rfl⟩ (fun hHeld => ?_); refine with_tabW hopmeshlaw14_CompressStrict.tab8 hopmeshlaw14_CompressStrict.bits8 (fun HT_ HW_ => ?_)
         generalize w26.drew = w27 at HO404 BK414 HB hHeld ⊢
         refine pu_ HT_ 0 38 (bl 9 1) ?_
         refine tk_ HT_ HW_ hHeld 2 40 (bl 9 5) ?_
         refine one_ (i := 1) (N := some 39) (bl 9 7) rfl rfl (one_of HT_.out (by kernel_rfl)) (by decide) (fun K hK => ?_)
         refine goes_ Try.func14 (by kernel_rfl) rfl #[.slice A0 l0.length c0] (by rfl) rfl rfl am_ ?_
         with_reducible refine (api_Context.calls _ _ l0 t415 _ ?side1 ?side2 A15.out).mono ?_
         (case side1 => repeat (first | exact (Kd.C_below HR0.out HB.out) | (with_reducible refine Kd.C_alloc ?_ _) | (with_reducible refine Kd.C_drewN ?_ _) | (with_reducible refine Kd.C_drew ?_)))
         (case side2 => exact HC0.out)
         rintro e w28 ⟨v416, rfl, ho0, hb⟩
         refine ⟨_, rfl, ?_⟩
         have n0_ := Aside0.mk (Kd.R_elder' (kr_ HO404) (Kd.R_base ho0) hb)
         have n1_ := Aside0.mk (Kd.R_lower (Kd.R_new' ho0 (Kd.R_lt (kr_ HO404))) (below_size hb_))
         have n2_ := bk_ BK414 hb
         have n3_ := Aside0.mk (below_step hb_ hb)
         clear HO404
         clear BK414
         clear HB
         have HO404 := n0_
         have HO417 := n1_
         have BK414 := n2_
         have HB := n3_
         clear n0_ n1_ n2_ n3_
         (try clear hb)
         (try clear hb2)
         (try clear hk)
         (try clear hi)
         (try clear ho0)
         obtain ⟨Ao29, co29, eo29⟩ := Kd.R_slice HO417.out
         (first | subst eo29 | (injection eo29 with f1_ f2_ f3_; have f4_ := f1_.symm; have f5_ := f3_.symm; clear f1_ f2_ f3_; subst f4_; subst f5_))
         refine hK.out _ _ ⟨(blk_cell BK414.out 0).trans rfl, (blk_cell BK414.out 1).trans rfl, (blk_cell BK414.out 2).trans rfl, (blk_cell BK414.out 3).trans rfl, (blk_cell BK414.out 4).trans rfl, (blk_cell BK414.out 5).trans rfl, (blk_cell BK414.out 6).trans rfl⟩ (fun hHeld => ?_)
         clear hK K
         refine norm_ (a' := ?_) ?_ ?_
         rotate_left
         ·
          show Act.put _ (some 39) _ = _
          simp only [ap_, s0_, s1_, i64_w]
          rfl
         refine one_ (i := 3) (N := some 41) (bl 9 15) rfl rfl (one_of HT_.out (by kernel_rfl)) (by decide) (fun K hK => ?_)
         refine goes_ Try.func17 (by kernel_rfl) rfl #[.slice Ao29 t415.length co29, .agg #[.int .i64 t405, .int .i64 t406, .string t407, .string t408, .int .i64 t409, .int .i64 t410, .int .i64 t411]] (by rfl) rfl rfl am_ ?_
         with_reducible refine (compress_Compress.calls _ _ t415 t405 t406 t407 t408 t409 t410 t411 t418 t419 _ ?side1 ?side2 A16.out).mono ?_
         (case side1 => repeat (first | exact (Kd.R_reads' HO417.out).2.2 | (with_reducible refine Kd.C_alloc ?_ _) | (with_reducible refine Kd.C_drewN ?_ _) | (with_reducible refine Kd.C_drew ?_)))
         (case side2 => exact (Kd.R_reads' HO417.out).2.1)
         rintro e w30 ⟨rfl, hb⟩
         refine ⟨_, rfl, ?_⟩
         have n0_ := Aside0.mk (Kd.R_below (kr_ HO404) hb)
         have n1_ := Aside0.mk (Kd.R_below (kr_ HO417) hb)
         have n2_ := bk_ BK414 hb
         have n3_ := Aside0.mk (below_step hb_ hb)
         clear HO404
         clear HO417
         clear BK414
         clear HB
         have HO404 := n0_
         have HO417 := n1_
         have BK414 := n2_
         have HB := n3_
         clear n0_ n1_ n2_ n3_
         (try clear hb)
         (try clear hb2)
         (try clear hk)
         (try clear hi)
         refine hK.out _ _ ⟨(blk_cell BK414.out 0).trans rfl, (blk_cell BK414.out 1).trans rfl, (blk_cell BK414.out 2).trans rfl, (blk_cell BK414.out 3).trans rfl, (blk_cell BK414.out 4).trans rfl, (blk_cell BK414.out 5).trans rfl, (blk_cell BK414.out 6).trans rfl⟩ (fun hHeld => ?_)
         clear hK K
         refine norm_ (a' := ?_) ?_ ?_
         rotate_left
         ·
          show Act.put _ (some 41) _ = _
          simp only [ap_, s0_, s1_, i64_w]
          rfl
         refine pu_ HT_ 4 37 (bl 9 31) ?_
         refine pu_ HT_ 5 42 (bl 9 63) ?_
         refine pu_ HT_ 6 43 (bl 9 127) ?_
         refine pu_ HT_ 7 8 (bl 9 255) ?_
         refine pu_ HT_ 8 9 (bl 9 511) ?_
         refine done_ (done_of HT_.out (by kernel_rfl)) ?_
         have hcz31_0 := bc0 BK414
         have hcz31_1 := bc1 BK414
         have hcz31_2 := bc2 BK414
         have hcz31_3 := bc3 BK414
         have hcz31_4 := bc4 BK414
         have hcz31_5 := bc5 BK414
         have hcz31_6 := bc6 BK414
         have hfz31_0 := blk_frozen BK414.out 0
         have hfz31_1 := blk_frozen BK414.out 1
         have hfz31_2 := blk_frozen BK414.out 2
         have hfz31_3 := blk_frozen BK414.out 3
         have hfz31_4 := blk_frozen BK414.out 4
         have hfz31_5 := blk_frozen BK414.out 5
         have hfz31_6 := blk_frozen BK414.out 6
         try go_wp2_with (first | (go_at_call 20; (with_reducible refine (compress_Check.calls kj4 t405 t406 t407 t408 t409 t410 t411 t420 _ A20.out).mono ?_); rintro e w32 ⟨rfl, hb⟩; have n0_ := Aside0.mk (Kd.R_below (kr_ HO404) hb); have n1_ := Aside0.mk (Kd.R_below (kr_ HO417) hb); have n2_ := bk_ BK414 hb; have n3_ := Aside0.mk (below_step hb_ hb); clear HO404; clear HO417; clear BK414; clear HB; have HO404 := n0_; have HO417 := n1_; have BK414 := n2_; have HB := n3_; clear n0_ n1_ n2_ n3_; (try clear hb); (try clear hb2); (try clear hk); (try clear hi)))
         go_ret
         exact ⟨er_, hb_⟩
        ·
         rw [if_neg c19] at H
         have c19b0 : ((t418 ++ t412).toList == a1.toList) = false := beq_eq_false_iff_ne.mpr c19
         have c19b1 : ((t418 ++ t412).toList != a1.toList) = true := bne_iff_ne.mpr c19
         obtain rfl := Option.some.inj H
         try go_wp2_with (first | ((with_reducible refine gate_callee (f := 14) rfl ?_); refine goesL_ (some 22) rfl rfl Try.func14 (by kernel_rfl) rfl #[.slice A0 l0.length c0] rfl am_ ?_; (with_reducible refine (api_Context.calls _ _ l0 t402 _ ?side1 ?side2 A12.out).mono ?_); (case side1 => repeat (first | exact (Kd.C_below HR0.out HB.out) | (with_reducible refine Kd.C_alloc ?_ _) | (with_reducible refine Kd.C_drewN ?_ _) | (with_reducible refine Kd.C_drew ?_))); (case side2 => exact HC0.out); rintro e w33 ⟨v403, rfl, ho0, hb⟩; refine ⟨_, rfl, ?_⟩; have n0_ := Aside0.mk (Kd.R_lower ho0 (below_size hb_)); have n1_ := Aside0.mk (below_step hb_ hb); clear HB; have HO404 := n0_; have HB := n1_; clear n0_ n1_; (try clear hb); (try clear hb2); (try clear hk); (try clear hi); (try clear ho0); obtain ⟨Ao34, co34, eo34⟩ := Kd.R_slice HO404.out; subst eo34) | ((with_reducible refine gate_callee (f := 24) rfl ?_); refine goesL_ (some 24) rfl rfl Try.func24 (by kernel_rfl) rfl #[.slice Ao34 t402.length co34, .string a1] rfl am_ ?_; (with_reducible refine (compress_Expand.calls _ _ t402 a1 t405 t406 t407 t408 t409 t410 t411 t412 t413 _ ?side1 ?side2 A13.out).mono ?_); (case side1 => repeat (first | exact (Kd.R_reads' HO404.out).2.2 | (with_reducible refine Kd.C_alloc ?_ _) | (with_reducible refine Kd.C_drewN ?_ _) | (with_reducible refine Kd.C_drew ?_))); (case side2 => exact (Kd.R_reads' HO404.out).2.1); rintro e w35 ⟨rfl, hb⟩; refine ⟨_, rfl, ?_⟩; have n0_ := Aside0.mk (Kd.R_below (kr_ HO404) hb); have n1_ := Aside0.mk (below_step hb_ hb); clear HO404; clear HB; have HO404 := n0_; have HB := n1_; clear n0_ n1_; (try clear hb); (try clear hb2); (try clear hk); (try clear hi)) | ((with_reducible refine gate_dst (N := 5) rfl ?_); refine bx_ 5 #[.int .i64 0, .int .i64 0, .string (⟨#[]⟩ : ByteArray), .string (⟨#[]⟩ : ByteArray), .int .i64 0, .int .i64 0, .int .i64 0] 24 ?_; intro gb414 hg w36 hbox hb; have n0_ := Aside0.mk (Kd.R_below (kr_ HO404) hb); have n1_ := Aside0.mk (below_step hb_ hb); have n2_ := Aside0.mk (hbox); have n3_ := Aside0.mk ((by rw [hg]; exact (below_size hb_) : w.heap.size ≤ gb414)); have n4_ := Aside0.mk ((by rw [hg]; exact (below_size hb_) : w.heap.size ≤ gb414)); clear HO404; clear HB; have HO404 := n0_; have HB := n1_; have BK414 := n2_; have GW414 := n3_; have GE414 := n4_; clear n0_ n1_ n2_ n3_ n4_; clear hb hbox hg; have hcz37_0 := bc0 BK414; have hcz37_1 := bc1 BK414; have hcz37_2 := bc2 BK414; have hcz37_3 := bc3 BK414; have hcz37_4 := bc4 BK414; have hcz37_5 := bc5 BK414; have hcz37_6 := bc6 BK414; have hfz37_0 := blk_frozen BK414.out 0; have hfz37_1 := blk_frozen BK414.out 1; have hfz37_2 := blk_frozen BK414.out 2; have hfz37_3 := blk_frozen BK414.out 3; have hfz37_4 := blk_frozen BK414.out 4; have hfz37_5 := blk_frozen BK414.out 5; have hfz37_6 := blk_frozen BK414.out 6))
         have n0_ : Aside0 (Kd.R k26 26 (((((((w36.setCell ⟨gb414, 0, none⟩ (.int .i64 t405)).setCell ⟨gb414, 1, none⟩ (.int .i64 t406)).setCell ⟨gb414, 2, none⟩ (.string t407)).setCell ⟨gb414, 3, none⟩ (.string t408)).setCell ⟨gb414, 4, none⟩ (.int .i64 t409)).setCell ⟨gb414, 5, none⟩ (.int .i64 t410)).setCell ⟨gb414, 6, none⟩ (.int .i64 t411)) w.heap.size (fun _ => True) (.slice Ao34 t402.length co34) t402) := ⟨by (with_reducible repeat (first | apply Kd.R_alloc | apply Kd.R_drewN | apply Kd.R_drew)); exact Kd.R_mono (Kd.R_far (p := ⟨gb414, 6, none⟩) (Kd.R_far (p := ⟨gb414, 5, none⟩) (Kd.R_far (p := ⟨gb414, 4, none⟩) (Kd.R_far (p := ⟨gb414, 3, none⟩) (Kd.R_far (p := ⟨gb414, 2, none⟩) (Kd.R_far (p := ⟨gb414, 1, none⟩) (Kd.R_far (p := ⟨gb414, 0, none⟩) (Kd.R_types HO404.out BK414.out (by decide)) (fun _ hk => hk.2) (.int .i64 t405)) (fun _ hk => hk.2) (.int .i64 t406)) (fun _ hk => hk.2) (.string t407)) (fun _ hk => hk.2) (.string t408)) (fun _ hk => hk.2) (.int .i64 t409)) (fun _ hk => hk.2) (.int .i64 t410)) (fun _ hk => hk.2) (.int .i64 t411)) (fun _ hk => trivial)⟩
         have n1_ : Aside0 ((((((((w36.setCell ⟨gb414, 0, none⟩ (.int .i64 t405)).setCell ⟨gb414, 1, none⟩ (.int .i64 t406)).setCell ⟨gb414, 2, none⟩ (.string t407)).setCell ⟨gb414, 3, none⟩ (.string t408)).setCell ⟨gb414, 4, none⟩ (.int .i64 t409)).setCell ⟨gb414, 5, none⟩ (.int .i64 t410)).setCell ⟨gb414, 6, none⟩ (.int .i64 t411)).heap[gb414]? = some (.cells #[.int .i64 t405, .int .i64 t406, .string t407, .string t408, .int .i64 t409, .int .i64 t410, .int .i64 t411] 24 (0, 0))) := ⟨by (with_reducible repeat (first | refine blk_drewN ?_ _ | refine blk_drew ?_ | refine blk_alloc ?_ _)); refine blk_put (cs := #[.int .i64 t405, .int .i64 t406, .string t407, .string t408, .int .i64 t409, .int .i64 t410, .int .i64 0]) ?_ 6 _ rfl; (with_reducible repeat (first | refine blk_drewN ?_ _ | refine blk_drew ?_ | refine blk_alloc ?_ _)); refine blk_put (cs := #[.int .i64 t405, .int .i64 t406, .string t407, .string t408, .int .i64 t409, .int .i64 0, .int .i64 0]) ?_ 5 _ rfl; (with_reducible repeat (first | refine blk_drewN ?_ _ | refine blk_drew ?_ | refine blk_alloc ?_ _)); refine blk_put (cs := #[.int .i64 t405, .int .i64 t406, .string t407, .string t408, .int .i64 0, .int .i64 0, .int .i64 0]) ?_ 4 _ rfl; (with_reducible repeat (first | refine blk_drewN ?_ _ | refine blk_drew ?_ | refine blk_alloc ?_ _)); refine blk_put (cs := #[.int .i64 t405, .int .i64 t406, .string t407, .string (⟨#[]⟩ : ByteArray), .int .i64 0, .int .i64 0, .int .i64 0]) ?_ 3 _ rfl; (with_reducible repeat (first | refine blk_drewN ?_ _ | refine blk_drew ?_ | refine blk_alloc ?_ _)); refine blk_put (cs := #[.int .i64 t405, .int .i64 t406, .string (⟨#[]⟩ : ByteArray), .string (⟨#[]⟩ : ByteArray), .int .i64 0, .int .i64 0, .int .i64 0]) ?_ 2 _ rfl; (with_reducible repeat (first | refine blk_drewN ?_ _ | refine blk_drew ?_ | refine blk_alloc ?_ _)); refine blk_put (cs := #[.int .i64 t405, .int .i64 0, .string (⟨#[]⟩ : ByteArray), .string (⟨#[]⟩ : ByteArray), .int .i64 0, .int .i64 0, .int .i64 0]) ?_ 1 _ rfl; (with_reducible repeat (first | refine blk_drewN ?_ _ | refine blk_drew ?_ | refine blk_alloc ?_ _)); refine blk_put (cs := #[.int .i64 0, .int .i64 0, .string (⟨#[]⟩ : ByteArray), .string (⟨#[]⟩ : ByteArray), .int .i64 0, .int .i64 0, .int .i64 0]) ?_ 0 _ rfl; (with_reducible repeat (first | refine blk_drewN ?_ _ | refine blk_drew ?_ | refine blk_alloc ?_ _)); exact BK414.out⟩
         have n2_ : Aside0 (Below w.heap.size w (((((((w36.setCell ⟨gb414, 0, none⟩ (.int .i64 t405)).setCell ⟨gb414, 1, none⟩ (.int .i64 t406)).setCell ⟨gb414, 2, none⟩ (.string t407)).setCell ⟨gb414, 3, none⟩ (.string t408)).setCell ⟨gb414, 4, none⟩ (.int .i64 t409)).setCell ⟨gb414, 5, none⟩ (.int .i64 t410)).setCell ⟨gb414, 6, none⟩ (.int .i64 t411))) := ⟨hb_⟩
         (try clear HO404)
         (try clear BK414)
         (try clear HB)
         generalize (((((((w36.setCell ⟨gb414, 0, none⟩ (.int .i64 t405)).setCell ⟨gb414, 1, none⟩ (.int .i64 t406)).setCell ⟨gb414, 2, none⟩ (.string t407)).setCell ⟨gb414, 3, none⟩ (.string t408)).setCell ⟨gb414, 4, none⟩ (.int .i64 t409)).setCell ⟨gb414, 5, none⟩ (.int .i64 t410)).setCell ⟨gb414, 6, none⟩ (.int .i64 t411)) = w38 at n0_ n1_ n2_ ⊢
         have HO404 := n0_
         have BK414 := n1_
         have HB := n2_
         clear n0_ n1_ n2_
         have n0_ := Aside0.mk (Kd.R_drew HO404.out)
         have n1_ := Aside0.mk (blk_drew BK414.out)
         have n2_ := Aside0.mk (below_drew1 HB.out)
         clear HO404
         clear BK414
         clear HB
         have HO404 := n0_
         have BK414 := n1_
         have HB := n2_
         clear n0_ n1_ n2_
         refine start_ (n := 9) (S := fun w' => w'.cell? ⟨gb414, 0, none⟩ = some (.int .i64 t405) ∧ w'.cell? ⟨gb414, 1, none⟩ = some (.int .i64 t406) ∧ w'.cell? ⟨gb414, 2, none⟩ = some (.string t407) ∧ w'.cell? ⟨gb414, 3, none⟩ = some (.string t408) ∧ w'.cell? ⟨gb414, 4, none⟩ = some (.int .i64 t409) ∧ w'.cell? ⟨gb414, 5, none⟩ = some (.int .i64 t410) ∧ w'.cell? ⟨gb414, 6, none⟩ = some (.int .i64 t411)) (ds := []) #[false, false, false, false, false, false, false, false, false] (by kernel_rfl) rfl rfl ⟨(blk_cell BK414.out 0).trans rfl, (blk_cell BK414.out 1).trans rfl, (blk_cell BK414.out 2).trans rfl, (blk_cell BK414.out 3).trans rfl, (blk_cell BK414.out 4).trans rfl, (blk_cell BK414.out 5).trans rfl, (blk_cell BK414.out 6).trans rfl⟩ (fun hHeld => ?_); refine with_tabW hopmeshlaw14_CompressStrict.tab8 hopmeshlaw14_CompressStrict.bits8 (fun HT_ HW_ => ?_)
         generalize w38.drew = w39 at HO404 BK414 HB hHeld ⊢
         refine pu_ HT_ 0 38 (bl 9 1) ?_
         refine tk_ HT_ HW_ hHeld 2 40 (bl 9 5) ?_
         refine one_ (i := 1) (N := some 39) (bl 9 7) rfl rfl (one_of HT_.out (by kernel_rfl)) (by decide) (fun K hK => ?_)
         refine goes_ Try.func14 (by kernel_rfl) rfl #[.slice A0 l0.length c0] (by rfl) rfl rfl am_ ?_
         with_reducible refine (api_Context.calls _ _ l0 t415 _ ?side1 ?side2 A15.out).mono ?_
         (case side1 => repeat (first | exact (Kd.C_below HR0.out HB.out) | (with_reducible refine Kd.C_alloc ?_ _) | (with_reducible refine Kd.C_drewN ?_ _) | (with_reducible refine Kd.C_drew ?_)))
         (case side2 => exact HC0.out)
         rintro e w40 ⟨v416, rfl, ho0, hb⟩
         refine ⟨_, rfl, ?_⟩
         have n0_ := Aside0.mk (Kd.R_elder' (kr_ HO404) (Kd.R_base ho0) hb)
         have n1_ := Aside0.mk (Kd.R_lower (Kd.R_new' ho0 (Kd.R_lt (kr_ HO404))) (below_size hb_))
         have n2_ := bk_ BK414 hb
         have n3_ := Aside0.mk (below_step hb_ hb)
         clear HO404
         clear BK414
         clear HB
         have HO404 := n0_
         have HO417 := n1_
         have BK414 := n2_
         have HB := n3_
         clear n0_ n1_ n2_ n3_
         (try clear hb)
         (try clear hb2)
         (try clear hk)
         (try clear hi)
         (try clear ho0)
         obtain ⟨Ao41, co41, eo41⟩ := Kd.R_slice HO417.out
         (first | subst eo41 | (injection eo41 with f1_ f2_ f3_; have f4_ := f1_.symm; have f5_ := f3_.symm; clear f1_ f2_ f3_; subst f4_; subst f5_))
         refine hK.out _ _ ⟨(blk_cell BK414.out 0).trans rfl, (blk_cell BK414.out 1).trans rfl, (blk_cell BK414.out 2).trans rfl, (blk_cell BK414.out 3).trans rfl, (blk_cell BK414.out 4).trans rfl, (blk_cell BK414.out 5).trans rfl, (blk_cell BK414.out 6).trans rfl⟩ (fun hHeld => ?_)
         clear hK K
         refine norm_ (a' := ?_) ?_ ?_
         rotate_left
         ·
          show Act.put _ (some 39) _ = _
          simp only [ap_, s0_, s1_, i64_w]
          rfl
         refine one_ (i := 3) (N := some 41) (bl 9 15) rfl rfl (one_of HT_.out (by kernel_rfl)) (by decide) (fun K hK => ?_)
         refine goes_ Try.func17 (by kernel_rfl) rfl #[.slice Ao41 t415.length co41, .agg #[.int .i64 t405, .int .i64 t406, .string t407, .string t408, .int .i64 t409, .int .i64 t410, .int .i64 t411]] (by rfl) rfl rfl am_ ?_
         with_reducible refine (compress_Compress.calls _ _ t415 t405 t406 t407 t408 t409 t410 t411 t418 t419 _ ?side1 ?side2 A16.out).mono ?_
         (case side1 => repeat (first | exact (Kd.R_reads' HO417.out).2.2 | (with_reducible refine Kd.C_alloc ?_ _) | (with_reducible refine Kd.C_drewN ?_ _) | (with_reducible refine Kd.C_drew ?_)))
         (case side2 => exact (Kd.R_reads' HO417.out).2.1)
         rintro e w42 ⟨rfl, hb⟩
         refine ⟨_, rfl, ?_⟩
         have n0_ := Aside0.mk (Kd.R_below (kr_ HO404) hb)
         have n1_ := Aside0.mk (Kd.R_below (kr_ HO417) hb)
         have n2_ := bk_ BK414 hb
         have n3_ := Aside0.mk (below_step hb_ hb)
         clear HO404
         clear HO417
         clear BK414
         clear HB
         have HO404 := n0_
         have HO417 := n1_
         have BK414 := n2_
         have HB := n3_
         clear n0_ n1_ n2_ n3_
         (try clear hb)
         (try clear hb2)
         (try clear hk)
         (try clear hi)
         refine hK.out _ _ ⟨(blk_cell BK414.out 0).trans rfl, (blk_cell BK414.out 1).trans rfl, (blk_cell BK414.out 2).trans rfl, (blk_cell BK414.out 3).trans rfl, (blk_cell BK414.out 4).trans rfl, (blk_cell BK414.out 5).trans rfl, (blk_cell BK414.out 6).trans rfl⟩ (fun hHeld => ?_)
         clear hK K
         refine norm_ (a' := ?_) ?_ ?_
         rotate_left
         ·
          show Act.put _ (some 41) _ = _
          simp only [ap_, s0_, s1_, i64_w]
          rfl
         refine pu_ HT_ 4 37 (bl 9 31) ?_
         refine pu_ HT_ 5 42 (bl 9 63) ?_
         refine pu_ HT_ 6 43 (bl 9 127) ?_
         refine pu_ HT_ 7 8 (bl 9 255) ?_
         refine pu_ HT_ 8 9 (bl 9 511) ?_
         refine done_ (done_of HT_.out (by kernel_rfl)) ?_
         try go_wp2
         go_ret
         exact ⟨er_, hb_⟩
       ·
        rw [if_neg c18] at H
        exact absurd H (by simp)
      ·
       rw [if_neg c17] at H
       have c17b0 : (t419 == 0) = false := beq_eq_false_iff_ne.mpr c17
       have c17b1 : (t419 != 0) = true := bne_iff_ne.mpr c17
       obtain rfl := Option.some.inj H
       try go_wp2_with (first | ((with_reducible refine gate_callee (f := 14) rfl ?_); refine goesL_ (some 22) rfl rfl Try.func14 (by kernel_rfl) rfl #[.slice A0 l0.length c0] rfl am_ ?_; (with_reducible refine (api_Context.calls _ _ l0 t402 _ ?side1 ?side2 A12.out).mono ?_); (case side1 => repeat (first | exact (Kd.C_below HR0.out HB.out) | (with_reducible refine Kd.C_alloc ?_ _) | (with_reducible refine Kd.C_drewN ?_ _) | (with_reducible refine Kd.C_drew ?_))); (case side2 => exact HC0.out); rintro e w43 ⟨v403, rfl, ho0, hb⟩; refine ⟨_, rfl, ?_⟩; have n0_ := Aside0.mk (Kd.R_lower ho0 (below_size hb_)); have n1_ := Aside0.mk (below_step hb_ hb); clear HB; have HO404 := n0_; have HB := n1_; clear n0_ n1_; (try clear hb); (try clear hb2); (try clear hk); (try clear hi); (try clear ho0); obtain ⟨Ao44, co44, eo44⟩ := Kd.R_slice HO404.out; subst eo44) | ((with_reducible refine gate_callee (f := 24) rfl ?_); refine goesL_ (some 24) rfl rfl Try.func24 (by kernel_rfl) rfl #[.slice Ao44 t402.length co44, .string a1] rfl am_ ?_; (with_reducible refine (compress_Expand.calls _ _ t402 a1 t405 t406 t407 t408 t409 t410 t411 t412 t413 _ ?side1 ?side2 A13.out).mono ?_); (case side1 => repeat (first | exact (Kd.R_reads' HO404.out).2.2 | (with_reducible refine Kd.C_alloc ?_ _) | (with_reducible refine Kd.C_drewN ?_ _) | (with_reducible refine Kd.C_drew ?_))); (case side2 => exact (Kd.R_reads' HO404.out).2.1); rintro e w45 ⟨rfl, hb⟩; refine ⟨_, rfl, ?_⟩; have n0_ := Aside0.mk (Kd.R_below (kr_ HO404) hb); have n1_ := Aside0.mk (below_step hb_ hb); clear HO404; clear HB; have HO404 := n0_; have HB := n1_; clear n0_ n1_; (try clear hb); (try clear hb2); (try clear hk); (try clear hi)) | ((with_reducible refine gate_dst (N := 5) rfl ?_); refine bx_ 5 #[.int .i64 0, .int .i64 0, .string (⟨#[]⟩ : ByteArray), .string (⟨#[]⟩ : ByteArray), .int .i64 0, .int .i64 0, .int .i64 0] 24 ?_; intro gb414 hg w46 hbox hb; have n0_ := Aside0.mk (Kd.R_below (kr_ HO404) hb); have n1_ := Aside0.mk (below_step hb_ hb); have n2_ := Aside0.mk (hbox); have n3_ := Aside0.mk ((by rw [hg]; exact (below_size hb_) : w.heap.size ≤ gb414)); have n4_ := Aside0.mk ((by rw [hg]; exact (below_size hb_) : w.heap.size ≤ gb414)); clear HO404; clear HB; have HO404 := n0_; have HB := n1_; have BK414 := n2_; have GW414 := n3_; have GE414 := n4_; clear n0_ n1_ n2_ n3_ n4_; clear hb hbox hg; have hcz47_0 := bc0 BK414; have hcz47_1 := bc1 BK414; have hcz47_2 := bc2 BK414; have hcz47_3 := bc3 BK414; have hcz47_4 := bc4 BK414; have hcz47_5 := bc5 BK414; have hcz47_6 := bc6 BK414; have hfz47_0 := blk_frozen BK414.out 0; have hfz47_1 := blk_frozen BK414.out 1; have hfz47_2 := blk_frozen BK414.out 2; have hfz47_3 := blk_frozen BK414.out 3; have hfz47_4 := blk_frozen BK414.out 4; have hfz47_5 := blk_frozen BK414.out 5; have hfz47_6 := blk_frozen BK414.out 6))
       have n0_ : Aside0 (Kd.R k26 26 (((((((w46.setCell ⟨gb414, 0, none⟩ (.int .i64 t405)).setCell ⟨gb414, 1, none⟩ (.int .i64 t406)).setCell ⟨gb414, 2, none⟩ (.string t407)).setCell ⟨gb414, 3, none⟩ (.string t408)).setCell ⟨gb414, 4, none⟩ (.int .i64 t409)).setCell ⟨gb414, 5, none⟩ (.int .i64 t410)).setCell ⟨gb414, 6, none⟩ (.int .i64 t411)) w.heap.size (fun _ => True) (.slice Ao44 t402.length co44) t402) := ⟨by (with_reducible repeat (first | apply Kd.R_alloc | apply Kd.R_drewN | apply Kd.R_drew)); exact Kd.R_mono (Kd.R_far (p := ⟨gb414, 6, none⟩) (Kd.R_far (p := ⟨gb414, 5, none⟩) (Kd.R_far (p := ⟨gb414, 4, none⟩) (Kd.R_far (p := ⟨gb414, 3, none⟩) (Kd.R_far (p := ⟨gb414, 2, none⟩) (Kd.R_far (p := ⟨gb414, 1, none⟩) (Kd.R_far (p := ⟨gb414, 0, none⟩) (Kd.R_types HO404.out BK414.out (by decide)) (fun _ hk => hk.2) (.int .i64 t405)) (fun _ hk => hk.2) (.int .i64 t406)) (fun _ hk => hk.2) (.string t407)) (fun _ hk => hk.2) (.string t408)) (fun _ hk => hk.2) (.int .i64 t409)) (fun _ hk => hk.2) (.int .i64 t410)) (fun _ hk => hk.2) (.int .i64 t411)) (fun _ hk => trivial)⟩
       have n1_ : Aside0 ((((((((w46.setCell ⟨gb414, 0, none⟩ (.int .i64 t405)).setCell ⟨gb414, 1, none⟩ (.int .i64 t406)).setCell ⟨gb414, 2, none⟩ (.string t407)).setCell ⟨gb414, 3, none⟩ (.string t408)).setCell ⟨gb414, 4, none⟩ (.int .i64 t409)).setCell ⟨gb414, 5, none⟩ (.int .i64 t410)).setCell ⟨gb414, 6, none⟩ (.int .i64 t411)).heap[gb414]? = some (.cells #[.int .i64 t405, .int .i64 t406, .string t407, .string t408, .int .i64 t409, .int .i64 t410, .int .i64 t411] 24 (0, 0))) := ⟨by (with_reducible repeat (first | refine blk_drewN ?_ _ | refine blk_drew ?_ | refine blk_alloc ?_ _)); refine blk_put (cs := #[.int .i64 t405, .int .i64 t406, .string t407, .string t408, .int .i64 t409, .int .i64 t410, .int .i64 0]) ?_ 6 _ rfl; (with_reducible repeat (first | refine blk_drewN ?_ _ | refine blk_drew ?_ | refine blk_alloc ?_ _)); refine blk_put (cs := #[.int .i64 t405, .int .i64 t406, .string t407, .string t408, .int .i64 t409, .int .i64 0, .int .i64 0]) ?_ 5 _ rfl; (with_reducible repeat (first | refine blk_drewN ?_ _ | refine blk_drew ?_ | refine blk_alloc ?_ _)); refine blk_put (cs := #[.int .i64 t405, .int .i64 t406, .string t407, .string t408, .int .i64 0, .int .i64 0, .int .i64 0]) ?_ 4 _ rfl; (with_reducible repeat (first | refine blk_drewN ?_ _ | refine blk_drew ?_ | refine blk_alloc ?_ _)); refine blk_put (cs := #[.int .i64 t405, .int .i64 t406, .string t407, .string (⟨#[]⟩ : ByteArray), .int .i64 0, .int .i64 0, .int .i64 0]) ?_ 3 _ rfl; (with_reducible repeat (first | refine blk_drewN ?_ _ | refine blk_drew ?_ | refine blk_alloc ?_ _)); refine blk_put (cs := #[.int .i64 t405, .int .i64 t406, .string (⟨#[]⟩ : ByteArray), .string (⟨#[]⟩ : ByteArray), .int .i64 0, .int .i64 0, .int .i64 0]) ?_ 2 _ rfl; (with_reducible repeat (first | refine blk_drewN ?_ _ | refine blk_drew ?_ | refine blk_alloc ?_ _)); refine blk_put (cs := #[.int .i64 t405, .int .i64 0, .string (⟨#[]⟩ : ByteArray), .string (⟨#[]⟩ : ByteArray), .int .i64 0, .int .i64 0, .int .i64 0]) ?_ 1 _ rfl; (with_reducible repeat (first | refine blk_drewN ?_ _ | refine blk_drew ?_ | refine blk_alloc ?_ _)); refine blk_put (cs := #[.int .i64 0, .int .i64 0, .string (⟨#[]⟩ : ByteArray), .string (⟨#[]⟩ : ByteArray), .int .i64 0, .int .i64 0, .int .i64 0]) ?_ 0 _ rfl; (with_reducible repeat (first | refine blk_drewN ?_ _ | refine blk_drew ?_ | refine blk_alloc ?_ _)); exact BK414.out⟩
       have n2_ : Aside0 (Below w.heap.size w (((((((w46.setCell ⟨gb414, 0, none⟩ (.int .i64 t405)).setCell ⟨gb414, 1, none⟩ (.int .i64 t406)).setCell ⟨gb414, 2, none⟩ (.string t407)).setCell ⟨gb414, 3, none⟩ (.string t408)).setCell ⟨gb414, 4, none⟩ (.int .i64 t409)).setCell ⟨gb414, 5, none⟩ (.int .i64 t410)).setCell ⟨gb414, 6, none⟩ (.int .i64 t411))) := ⟨hb_⟩
       (try clear HO404)
       (try clear BK414)
       (try clear HB)
       generalize (((((((w46.setCell ⟨gb414, 0, none⟩ (.int .i64 t405)).setCell ⟨gb414, 1, none⟩ (.int .i64 t406)).setCell ⟨gb414, 2, none⟩ (.string t407)).setCell ⟨gb414, 3, none⟩ (.string t408)).setCell ⟨gb414, 4, none⟩ (.int .i64 t409)).setCell ⟨gb414, 5, none⟩ (.int .i64 t410)).setCell ⟨gb414, 6, none⟩ (.int .i64 t411)) = w48 at n0_ n1_ n2_ ⊢
       have HO404 := n0_
       have BK414 := n1_
       have HB := n2_
       clear n0_ n1_ n2_
       have n0_ := Aside0.mk (Kd.R_drew HO404.out)
       have n1_ := Aside0.mk (blk_drew BK414.out)
       have n2_ := Aside0.mk (below_drew1 HB.out)
       clear HO404
       clear BK414
       clear HB
       have HO404 := n0_
       have BK414 := n1_
       have HB := n2_
       clear n0_ n1_ n2_
       refine start_ (n := 9) (S := fun w' => w'.cell? ⟨gb414, 0, none⟩ = some (.int .i64 t405) ∧ w'.cell? ⟨gb414, 1, none⟩ = some (.int .i64 t406) ∧ w'.cell? ⟨gb414, 2, none⟩ = some (.string t407) ∧ w'.cell? ⟨gb414, 3, none⟩ = some (.string t408) ∧ w'.cell? ⟨gb414, 4, none⟩ = some (.int .i64 t409) ∧ w'.cell? ⟨gb414, 5, none⟩ = some (.int .i64 t410) ∧ w'.cell? ⟨gb414, 6, none⟩ = some (.int .i64 t411)) (ds := []) #[false, false, false, false, false, false, false, false, false] (by kernel_rfl) rfl rfl ⟨(blk_cell BK414.out 0).trans rfl, (blk_cell BK414.out 1).trans rfl, (blk_cell BK414.out 2).trans rfl, (blk_cell BK414.out 3).trans rfl, (blk_cell BK414.out 4).trans rfl, (blk_cell BK414.out 5).trans rfl, (blk_cell BK414.out 6).trans rfl⟩ (fun hHeld => ?_); refine with_tabW hopmeshlaw14_CompressStrict.tab8 hopmeshlaw14_CompressStrict.bits8 (fun HT_ HW_ => ?_)
       generalize w48.drew = w49 at HO404 BK414 HB hHeld ⊢
       refine pu_ HT_ 0 38 (bl 9 1) ?_
       refine tk_ HT_ HW_ hHeld 2 40 (bl 9 5) ?_
       refine one_ (i := 1) (N := some 39) (bl 9 7) rfl rfl (one_of HT_.out (by kernel_rfl)) (by decide) (fun K hK => ?_)
       refine goes_ Try.func14 (by kernel_rfl) rfl #[.slice A0 l0.length c0] (by rfl) rfl rfl am_ ?_
       with_reducible refine (api_Context.calls _ _ l0 t415 _ ?side1 ?side2 A15.out).mono ?_
       (case side1 => repeat (first | exact (Kd.C_below HR0.out HB.out) | (with_reducible refine Kd.C_alloc ?_ _) | (with_reducible refine Kd.C_drewN ?_ _) | (with_reducible refine Kd.C_drew ?_)))
       (case side2 => exact HC0.out)
       rintro e w50 ⟨v416, rfl, ho0, hb⟩
       refine ⟨_, rfl, ?_⟩
       have n0_ := Aside0.mk (Kd.R_elder' (kr_ HO404) (Kd.R_base ho0) hb)
       have n1_ := Aside0.mk (Kd.R_lower (Kd.R_new' ho0 (Kd.R_lt (kr_ HO404))) (below_size hb_))
       have n2_ := bk_ BK414 hb
       have n3_ := Aside0.mk (below_step hb_ hb)
       clear HO404
       clear BK414
       clear HB
       have HO404 := n0_
       have HO417 := n1_
       have BK414 := n2_
       have HB := n3_
       clear n0_ n1_ n2_ n3_
       (try clear hb)
       (try clear hb2)
       (try clear hk)
       (try clear hi)
       (try clear ho0)
       obtain ⟨Ao51, co51, eo51⟩ := Kd.R_slice HO417.out
       (first | subst eo51 | (injection eo51 with f1_ f2_ f3_; have f4_ := f1_.symm; have f5_ := f3_.symm; clear f1_ f2_ f3_; subst f4_; subst f5_))
       refine hK.out _ _ ⟨(blk_cell BK414.out 0).trans rfl, (blk_cell BK414.out 1).trans rfl, (blk_cell BK414.out 2).trans rfl, (blk_cell BK414.out 3).trans rfl, (blk_cell BK414.out 4).trans rfl, (blk_cell BK414.out 5).trans rfl, (blk_cell BK414.out 6).trans rfl⟩ (fun hHeld => ?_)
       clear hK K
       refine norm_ (a' := ?_) ?_ ?_
       rotate_left
       ·
        show Act.put _ (some 39) _ = _
        simp only [ap_, s0_, s1_, i64_w]
        rfl
       refine one_ (i := 3) (N := some 41) (bl 9 15) rfl rfl (one_of HT_.out (by kernel_rfl)) (by decide) (fun K hK => ?_)
       refine goes_ Try.func17 (by kernel_rfl) rfl #[.slice Ao51 t415.length co51, .agg #[.int .i64 t405, .int .i64 t406, .string t407, .string t408, .int .i64 t409, .int .i64 t410, .int .i64 t411]] (by rfl) rfl rfl am_ ?_
       with_reducible refine (compress_Compress.calls _ _ t415 t405 t406 t407 t408 t409 t410 t411 t418 t419 _ ?side1 ?side2 A16.out).mono ?_
       (case side1 => repeat (first | exact (Kd.R_reads' HO417.out).2.2 | (with_reducible refine Kd.C_alloc ?_ _) | (with_reducible refine Kd.C_drewN ?_ _) | (with_reducible refine Kd.C_drew ?_)))
       (case side2 => exact (Kd.R_reads' HO417.out).2.1)
       rintro e w52 ⟨rfl, hb⟩
       refine ⟨_, rfl, ?_⟩
       have n0_ := Aside0.mk (Kd.R_below (kr_ HO404) hb)
       have n1_ := Aside0.mk (Kd.R_below (kr_ HO417) hb)
       have n2_ := bk_ BK414 hb
       have n3_ := Aside0.mk (below_step hb_ hb)
       clear HO404
       clear HO417
       clear BK414
       clear HB
       have HO404 := n0_
       have HO417 := n1_
       have BK414 := n2_
       have HB := n3_
       clear n0_ n1_ n2_ n3_
       (try clear hb)
       (try clear hb2)
       (try clear hk)
       (try clear hi)
       refine hK.out _ _ ⟨(blk_cell BK414.out 0).trans rfl, (blk_cell BK414.out 1).trans rfl, (blk_cell BK414.out 2).trans rfl, (blk_cell BK414.out 3).trans rfl, (blk_cell BK414.out 4).trans rfl, (blk_cell BK414.out 5).trans rfl, (blk_cell BK414.out 6).trans rfl⟩ (fun hHeld => ?_)
       clear hK K
       refine norm_ (a' := ?_) ?_ ?_
       rotate_left
       ·
        show Act.put _ (some 41) _ = _
        simp only [ap_, s0_, s1_, i64_w]
        rfl
       refine pu_ HT_ 4 37 (bl 9 31) ?_
       refine pu_ HT_ 5 42 (bl 9 63) ?_
       refine pu_ HT_ 6 43 (bl 9 127) ?_
       refine pu_ HT_ 7 8 (bl 9 255) ?_
       refine pu_ HT_ 8 9 (bl 9 511) ?_
       refine done_ (done_of HT_.out (by kernel_rfl)) ?_
       try go_wp2
       go_ret
       exact ⟨er_, hb_⟩
     ·
      rw [if_neg c14] at H
      have c14b0 : (t413 == 0) = false := beq_eq_false_iff_ne.mpr c14
      have c14b1 : (t413 != 0) = true := bne_iff_ne.mpr c14
      by_cases c53 : (t405 == 0 && (t406 == 0 && (t407.toList == ([] : List UInt8) && (t408.toList == ([] : List UInt8) && (t409 == 0 && (t410 == 0 && (t411 == 0))))))) = true
      ·
       rw [if_pos c53] at H
       have c53b0 : (t405 == 0 && (t406 == 0 && (t407.toList == ([] : List UInt8) && (t408.toList == ([] : List UInt8) && (t409 == 0 && (t410 == 0 && (t411 == 0))))))) = true := c53
       have c53c : (t405 = 0 ∧ t406 = 0 ∧ t407.toList = [] ∧ t408.toList = [] ∧ t409 = 0 ∧ t410 = 0 ∧ t411 = 0) := by simpa using c53b0
       (try (have c53b1 : decide (t405 = 0 && (t406 == 0 && (t407.toList == ([] : List UInt8) && (t408.toList == ([] : List UInt8) && (t409 == 0 && (t410 == 0 && (t411 == 0))))))) = true := by simpa using c53))
       (try (have c53b2 : (t405 == 0 && (t406 == 0 && (t407.toList == ([] : List UInt8) && (t408.toList == ([] : List UInt8) && (t409 == 0 && (t410 == 0 && (t411 == 0))))))) = true := by simpa using c53))
       clear c53
       obtain rfl := Option.some.inj H
       go_wp2_with (first | ((with_reducible refine gate_callee (f := 14) rfl ?_); refine goesL_ (some 22) rfl rfl Try.func14 (by kernel_rfl) rfl #[.slice A0 l0.length c0] rfl am_ ?_; (with_reducible refine (api_Context.calls _ _ l0 t402 _ ?side1 ?side2 A12.out).mono ?_); (case side1 => repeat (first | exact (Kd.C_below HR0.out HB.out) | (with_reducible refine Kd.C_alloc ?_ _) | (with_reducible refine Kd.C_drewN ?_ _) | (with_reducible refine Kd.C_drew ?_))); (case side2 => exact HC0.out); rintro e w54 ⟨v403, rfl, ho0, hb⟩; refine ⟨_, rfl, ?_⟩; have n0_ := Aside0.mk (Kd.R_lower ho0 (below_size hb_)); have n1_ := Aside0.mk (below_step hb_ hb); clear HB; have HO404 := n0_; have HB := n1_; clear n0_ n1_; (try clear hb); (try clear hb2); (try clear hk); (try clear hi); (try clear ho0); obtain ⟨Ao55, co55, eo55⟩ := Kd.R_slice HO404.out; subst eo55) | ((with_reducible refine gate_callee (f := 24) rfl ?_); refine goesL_ (some 24) rfl rfl Try.func24 (by kernel_rfl) rfl #[.slice Ao55 t402.length co55, .string a1] rfl am_ ?_; (with_reducible refine (compress_Expand.calls _ _ t402 a1 t405 t406 t407 t408 t409 t410 t411 t412 t413 _ ?side1 ?side2 A13.out).mono ?_); (case side1 => repeat (first | exact (Kd.R_reads' HO404.out).2.2 | (with_reducible refine Kd.C_alloc ?_ _) | (with_reducible refine Kd.C_drewN ?_ _) | (with_reducible refine Kd.C_drew ?_))); (case side2 => exact (Kd.R_reads' HO404.out).2.1); rintro e w56 ⟨rfl, hb⟩; refine ⟨_, rfl, ?_⟩; have n0_ := Aside0.mk (Kd.R_below (kr_ HO404) hb); have n1_ := Aside0.mk (below_step hb_ hb); clear HO404; clear HB; have HO404 := n0_; have HB := n1_; clear n0_ n1_; (try clear hb); (try clear hb2); (try clear hk); (try clear hi)) | ((with_reducible refine gate_dst (N := 5) rfl ?_); refine bx_ 5 #[.int .i64 0, .int .i64 0, .string (⟨#[]⟩ : ByteArray), .string (⟨#[]⟩ : ByteArray), .int .i64 0, .int .i64 0, .int .i64 0] 24 ?_; intro gb414 hg w57 hbox hb; have n0_ := Aside0.mk (Kd.R_below (kr_ HO404) hb); have n1_ := Aside0.mk (below_step hb_ hb); have n2_ := Aside0.mk (hbox); have n3_ := Aside0.mk ((by rw [hg]; exact (below_size hb_) : w.heap.size ≤ gb414)); have n4_ := Aside0.mk ((by rw [hg]; exact (below_size hb_) : w.heap.size ≤ gb414)); clear HO404; clear HB; have HO404 := n0_; have HB := n1_; have BK414 := n2_; have GW414 := n3_; have GE414 := n4_; clear n0_ n1_ n2_ n3_ n4_; clear hb hbox hg; have hcz58_0 := bc0 BK414; have hcz58_1 := bc1 BK414; have hcz58_2 := bc2 BK414; have hcz58_3 := bc3 BK414; have hcz58_4 := bc4 BK414; have hcz58_5 := bc5 BK414; have hcz58_6 := bc6 BK414; have hfz58_0 := blk_frozen BK414.out 0; have hfz58_1 := blk_frozen BK414.out 1; have hfz58_2 := blk_frozen BK414.out 2; have hfz58_3 := blk_frozen BK414.out 3; have hfz58_4 := blk_frozen BK414.out 4; have hfz58_5 := blk_frozen BK414.out 5; have hfz58_6 := blk_frozen BK414.out 6))
       go_ret
       exact ⟨er_, hb_⟩
      ·
       rw [if_neg c53] at H
       have c53b0 : (t405 == 0 && (t406 == 0 && (t407.toList == ([] : List UInt8) && (t408.toList == ([] : List UInt8) && (t409 == 0 && (t410 == 0 && (t411 == 0))))))) = false := by simpa using c53
       have c53c : ¬ (t405 = 0 ∧ t406 = 0 ∧ t407.toList = [] ∧ t408.toList = [] ∧ t409 = 0 ∧ t410 = 0 ∧ t411 = 0) := by simpa using c53b0
       (try (have c53b1 : decide (t405 = 0 && (t406 == 0 && (t407.toList == ([] : List UInt8) && (t408.toList == ([] : List UInt8) && (t409 == 0 && (t410 == 0 && (t411 == 0))))))) = false := by simpa using c53))
       (try (have c53b2 : (t405 == 0 && (t406 == 0 && (t407.toList == ([] : List UInt8) && (t408.toList == ([] : List UInt8) && (t409 == 0 && (t410 == 0 && (t411 == 0))))))) = false := by simpa using c53))
       (try (have c53b3 : ¬ (t405 = 0 && (t406 == 0 && (t407.toList == ([] : List UInt8) && (t408.toList == ([] : List UInt8) && (t409 == 0 && (t410 == 0 && (t411 == 0))))))) := by simpa using c53))
       clear c53
       obtain rfl := Option.some.inj H
       go_wp2_with (first | ((with_reducible refine gate_callee (f := 14) rfl ?_); refine goesL_ (some 22) rfl rfl Try.func14 (by kernel_rfl) rfl #[.slice A0 l0.length c0] rfl am_ ?_; (with_reducible refine (api_Context.calls _ _ l0 t402 _ ?side1 ?side2 A12.out).mono ?_); (case side1 => repeat (first | exact (Kd.C_below HR0.out HB.out) | (with_reducible refine Kd.C_alloc ?_ _) | (with_reducible refine Kd.C_drewN ?_ _) | (with_reducible refine Kd.C_drew ?_))); (case side2 => exact HC0.out); rintro e w59 ⟨v403, rfl, ho0, hb⟩; refine ⟨_, rfl, ?_⟩; have n0_ := Aside0.mk (Kd.R_lower ho0 (below_size hb_)); have n1_ := Aside0.mk (below_step hb_ hb); clear HB; have HO404 := n0_; have HB := n1_; clear n0_ n1_; (try clear hb); (try clear hb2); (try clear hk); (try clear hi); (try clear ho0); obtain ⟨Ao60, co60, eo60⟩ := Kd.R_slice HO404.out; subst eo60) | ((with_reducible refine gate_callee (f := 24) rfl ?_); refine goesL_ (some 24) rfl rfl Try.func24 (by kernel_rfl) rfl #[.slice Ao60 t402.length co60, .string a1] rfl am_ ?_; (with_reducible refine (compress_Expand.calls _ _ t402 a1 t405 t406 t407 t408 t409 t410 t411 t412 t413 _ ?side1 ?side2 A13.out).mono ?_); (case side1 => repeat (first | exact (Kd.R_reads' HO404.out).2.2 | (with_reducible refine Kd.C_alloc ?_ _) | (with_reducible refine Kd.C_drewN ?_ _) | (with_reducible refine Kd.C_drew ?_))); (case side2 => exact (Kd.R_reads' HO404.out).2.1); rintro e w61 ⟨rfl, hb⟩; refine ⟨_, rfl, ?_⟩; have n0_ := Aside0.mk (Kd.R_below (kr_ HO404) hb); have n1_ := Aside0.mk (below_step hb_ hb); clear HO404; clear HB; have HO404 := n0_; have HB := n1_; clear n0_ n1_; (try clear hb); (try clear hb2); (try clear hk); (try clear hi)) | ((with_reducible refine gate_dst (N := 5) rfl ?_); refine bx_ 5 #[.int .i64 0, .int .i64 0, .string (⟨#[]⟩ : ByteArray), .string (⟨#[]⟩ : ByteArray), .int .i64 0, .int .i64 0, .int .i64 0] 24 ?_; intro gb414 hg w62 hbox hb; have n0_ := Aside0.mk (Kd.R_below (kr_ HO404) hb); have n1_ := Aside0.mk (below_step hb_ hb); have n2_ := Aside0.mk (hbox); have n3_ := Aside0.mk ((by rw [hg]; exact (below_size hb_) : w.heap.size ≤ gb414)); have n4_ := Aside0.mk ((by rw [hg]; exact (below_size hb_) : w.heap.size ≤ gb414)); clear HO404; clear HB; have HO404 := n0_; have HB := n1_; have BK414 := n2_; have GW414 := n3_; have GE414 := n4_; clear n0_ n1_ n2_ n3_ n4_; clear hb hbox hg; have hcz63_0 := bc0 BK414; have hcz63_1 := bc1 BK414; have hcz63_2 := bc2 BK414; have hcz63_3 := bc3 BK414; have hcz63_4 := bc4 BK414; have hcz63_5 := bc5 BK414; have hcz63_6 := bc6 BK414; have hfz63_0 := blk_frozen BK414.out 0; have hfz63_1 := blk_frozen BK414.out 1; have hfz63_2 := blk_frozen BK414.out 2; have hfz63_3 := blk_frozen BK414.out 3; have hfz63_4 := blk_frozen BK414.out 4; have hfz63_5 := blk_frozen BK414.out 5; have hfz63_6 := blk_frozen BK414.out 6))
       go_ret
       exact ⟨er_, hb_⟩
 ·
  replace c4 := Bool.eq_false_iff.mpr c4
  subst c4
  have H1 : (some false) = some r := by rw [if_neg (show ¬ (false = true) by decide)] at H; exact H
  clear H
  have H := H1
  clear H1
  obtain rfl := Option.some.inj H
  go_enter Try.func8, Try.ntmps8
  go_wp2_with (first | ((with_reducible refine gate_callee (f := 10) rfl ?_); refine goesL_ (some 10) rfl rfl Try.func10 (by kernel_rfl) rfl #[] rfl am_ ?_; (with_reducible refine (hopmeshlaw14_awake.calls k  false _ A3.out).mono ?_); rintro e w64 ⟨rfl, hb⟩; refine ⟨_, rfl, ?_⟩; have n0_ := Aside0.mk (below_step hb_ hb); clear HB; have HB := n0_; clear n0_; (try clear hb); (try clear hb2); (try clear hk); (try clear hi)))
  go_ret
  exact ⟨er_, hb_⟩

end Go.Proofs.Ytmbbijhppgkdfaa.P14
