-- Written by a program of this session (wip/tools) over the kit's print; Lean checks it.
import Derived.Test.YtmbbijhppgkdfaaP140
namespace Go.Proofs.Ytmbbijhppgkdfaa.P14
open Go.RowKit Go.Proofs.YtmbbijhppgkdfaaW.PrintWords Go.Proofs.YtmbbijhppgkdfaaW.PrintLast Go.Proofs.YtmbbijhppgkdfaaW.PrintMore
attribute [local go_sem] max2_int min2_int max_two min_two max_three min_three max_four min_four   -- for this text's walks alone
set_option linter.unusedVariables false
set_option linter.unusedSimpArgs false

/-! ### hopmeshref14_Contexts: function 23 -/
def hopmeshref14_Contexts.l0 : Nat → List (S26) → Int → Option (Int)
 | 0, _, _ => none
 | k + 1, x0, x3 => if x3 < (x0.length : Int) then (if 0 ≤ x3 then (if (((rd_T26 x0 x3).f0).size : Int) < 1 then (some 1) else (if (((rd_T26 x0 x3).f0).size : Int) > 4 then (some 1) else (hopmeshref14_Contexts.l0 k x0 (wrap64 (x3 + 1))))) else (none)) else (some 0)
def hopmeshref14_Contexts.f (k : Nat) (l0 : List (S26)) : Option (Int) := if (l0.length : Int) > 8 then (some 1) else (hopmeshref14_Contexts.l0 k l0 0)
theorem hopmeshref14_Contexts.mono_l : ∀ k, (∀ y0 y1, LeO (hopmeshref14_Contexts.l0 k y0 y1) (hopmeshref14_Contexts.l0 (k + 1) y0 y1))
 | 0 => fun _ _ r h => by simp [hopmeshref14_Contexts.l0] at h
 | k + 1 => by
  have ih0 := hopmeshref14_Contexts.mono_l k
  ·
   intro y0 y1
   unfold hopmeshref14_Contexts.l0
   repeat' first
   | (with_reducible exact ih0 _ _)
   | (with_reducible exact LeO.refl _)
   | (with_reducible exact LeO.none _)
   | (with_reducible refine LeO.ite ?_ ?_)
   | (with_reducible refine LeO.bind ?_ (fun _ => ?_))
   | exact ih0 _ _
   | exact LeO.none _
   | refine LeO.ite ?_ ?_
   | refine LeO.bind ?_ (fun _ => ?_)
theorem hopmeshref14_Contexts.mono : ∀ a0 k, LeO (hopmeshref14_Contexts.f k a0) (hopmeshref14_Contexts.f (k + 1) a0) := by
 intro a0 k
 have ih0 := hopmeshref14_Contexts.mono_l k
 unfold hopmeshref14_Contexts.f
 repeat' first
   | (with_reducible exact ih0 _ _)
   | (with_reducible exact LeO.refl _)
   | (with_reducible exact LeO.none _)
   | (with_reducible refine LeO.ite ?_ ?_)
   | (with_reducible refine LeO.bind ?_ (fun _ => ?_))
   | exact ih0 _ _
   | exact LeO.none _
   | refine LeO.ite ?_ ?_
   | refine LeO.bind ?_ (fun _ => ?_)
set_option maxHeartbeats 8000000 in
set_option maxRecDepth 100000 in
theorem hopmeshref14_Contexts.calls (k : Nat) (A0 : Option Addr) (c0 : Nat) (l0 : List (S26)) (r : Int) (w : World) (hr0 : Kd.C k26 w A0 l0.length l0) (hc0 : l0.length ≤ c0) (h : hopmeshref14_Contexts.f k l0 = some r) :
  Calls Try.prog 23 #[.slice A0 l0.length c0] w fun e w' => e = .returned (.int .i64 r) ∧ Drawn0 w w' := by
 have HR0 := Aside0.mk hr0
 have HC0 := Aside0.mk hc0
 clear hr0 hc0
 have H : (if (l0.length : Int) > 8 then (some 1) else (hopmeshref14_Contexts.l0 k l0 0)) = some r := h
 clear h
 by_cases c2 : (l0.length : Int) > 8
 ·
  rw [if_pos c2] at H
  have c2b0 : decide (8 < (l0.length : Int)) = true := decide_eq_true c2
  have c2b1 : decide (8 < l0.length) = true := decide_eq_true (by omega)
  clear c2
  obtain rfl := Option.some.inj H
  go_enter Try.func23, Try.ntmps23
  go_wp2
  go_ret
  exact ⟨by first | rfl | (simp; done) | (simp [*]; done), by repeat (first | exact Drawn0.refl _ | apply Drawn0.step)⟩
 ·
  rw [if_neg c2] at H
  have c2b0 : decide (8 < (l0.length : Int)) = false := decide_eq_false c2
  have c2b1 : decide (8 < l0.length) = false := decide_eq_false (by omega)
  clear c2
  have H' := Aside0.mk H
  clear H
  go_enter Try.func23, Try.ntmps23
  go_wp2
  go_loopg [3] k (fun kq v3 w' => ∃ (x3_1 : Int), v3 = .int .i64 x3_1 ∧ Aside0 (hopmeshref14_Contexts.l0 kq l0 x3_1 = some r) ∧ Aside0 (kq ≤ k) ∧ Drawn0 w w')
  case atStart => exact ⟨(0), rl_, H', ⟨Nat.le_refl _⟩, by repeat (first | exact Drawn0.refl _ | apply Drawn0.step)⟩
  case round =>
   clear H'
   try clear c2; try clear c2b0; try clear c2b1; try clear p2
   obtain ⟨x3_1, rfl, HA, HK1, ⟨m1, rfl⟩⟩ := hrel
   cases gk with
   | zero => exact absurd HA.out (by simp [hopmeshref14_Contexts.l0])
   | succ k1 =>
    have H := HA.out
    clear HA
    simp only [hopmeshref14_Contexts.l0] at H
    by_cases c3 : x3_1 < (l0.length : Int)
    ·
     rw [if_pos c3] at H
     have c3b0 : decide (x3_1 < (l0.length : Int)) = true := decide_eq_true c3
     clear c3
     by_cases c4 : 0 ≤ x3_1
     ·
      rw [if_pos c4] at H
      have c4b0 : decide (0 ≤ x3_1) = true := decide_eq_true c4
      clear c4
      by_cases c5 : (((rd_T26 l0 x3_1).f0).size : Int) < 1
      ·
       rw [if_pos c5] at H
       have c5b0 : decide ((((rd_T26 l0 x3_1).f0).size : Int) < 1) = true := decide_eq_true c5
       have c5b1 : decide (((rd_T26 l0 x3_1).f0).size < 1) = true := decide_eq_true (by omega)
       clear c5
       obtain rfl := Option.some.inj H
       have p148 : 0 ≤ (x3_1 : Int) := of_decide_eq_true (by assumption)
       have q148 : x3_1 < (l0.length : Int) := of_decide_eq_true (by assumption)
       obtain ⟨ad148, e148, hx148_0⟩ := at_T26 HR0.out x3_1 p148 q148
       cases e148
       replace p148 := eq_true p148
       replace q148 := eq_true q148
       go_wp2
       go_ret
       exact ⟨by first | rfl | (simp; done) | (simp [*]; done), by repeat (first | exact Drawn0.refl _ | apply Drawn0.step)⟩
      ·
       rw [if_neg c5] at H
       have c5b0 : decide ((((rd_T26 l0 x3_1).f0).size : Int) < 1) = false := decide_eq_false c5
       have c5b1 : decide (((rd_T26 l0 x3_1).f0).size < 1) = false := decide_eq_false (by omega)
       clear c5
       by_cases c6 : (((rd_T26 l0 x3_1).f0).size : Int) > 4
       ·
        rw [if_pos c6] at H
        have c6b0 : decide (4 < (((rd_T26 l0 x3_1).f0).size : Int)) = true := decide_eq_true c6
        have c6b1 : decide (4 < ((rd_T26 l0 x3_1).f0).size) = true := decide_eq_true (by omega)
        clear c6
        obtain rfl := Option.some.inj H
        have p148 : 0 ≤ (x3_1 : Int) := of_decide_eq_true (by assumption)
        have q148 : x3_1 < (l0.length : Int) := of_decide_eq_true (by assumption)
        obtain ⟨ad148, e148, hx148_0⟩ := at_T26 HR0.out x3_1 p148 q148
        cases e148
        replace p148 := eq_true p148
        replace q148 := eq_true q148
        have p149 : 0 ≤ (x3_1 : Int) := of_decide_eq_true (by assumption)
        have q149 : x3_1 < (l0.length : Int) := of_decide_eq_true (by assumption)
        obtain ⟨ad149, e149, hx149_0⟩ := at_T26 HR0.out x3_1 p149 q149
        obtain rfl : ad148 = ad149 := (by injection e149)
        replace p149 := eq_true p149
        replace q149 := eq_true q149
        go_wp2
        go_ret
        exact ⟨by first | rfl | (simp; done) | (simp [*]; done), by repeat (first | exact Drawn0.refl _ | apply Drawn0.step)⟩
       ·
        rw [if_neg c6] at H
        have c6b0 : decide (4 < (((rd_T26 l0 x3_1).f0).size : Int)) = false := decide_eq_false c6
        have c6b1 : decide (4 < ((rd_T26 l0 x3_1).f0).size) = false := decide_eq_false (by omega)
        clear c6
        have H' := Aside0.mk H
        clear H
        have p148 : 0 ≤ (x3_1 : Int) := of_decide_eq_true (by assumption)
        have q148 : x3_1 < (l0.length : Int) := of_decide_eq_true (by assumption)
        obtain ⟨ad148, e148, hx148_0⟩ := at_T26 HR0.out x3_1 p148 q148
        cases e148
        replace p148 := eq_true p148
        replace q148 := eq_true q148
        have p149 : 0 ≤ (x3_1 : Int) := of_decide_eq_true (by assumption)
        have q149 : x3_1 < (l0.length : Int) := of_decide_eq_true (by assumption)
        obtain ⟨ad149, e149, hx149_0⟩ := at_T26 HR0.out x3_1 p149 q149
        obtain rfl : ad148 = ad149 := (by injection e149)
        replace p149 := eq_true p149
        replace q149 := eq_true q149
        go_wp2
        go_roundg k1
        case measure => have := HK1.out; omega
        case rel => exact ⟨(wrap64 (x3_1 + 1)), rl_, H', ⟨by have := HK1.out; omega⟩, by repeat (first | exact Drawn0.refl _ | apply Drawn0.step)⟩
     ·
      rw [if_neg c4] at H
      exact absurd H (by simp)
    ·
     rw [if_neg c3] at H
     have c3b0 : decide (x3_1 < (l0.length : Int)) = false := decide_eq_false c3
     clear c3
     obtain rfl := Option.some.inj H
     go_wp2
     go_ret
     exact ⟨by first | rfl | (simp; done) | (simp [*]; done), by repeat (first | exact Drawn0.refl _ | apply Drawn0.step)⟩

/-! ### hopmeshref14_Find: function 16 -/
mutual
def hopmeshref14_Find.j0 : Nat → List (S26) → ByteArray → Bool → Option (Int × Bool)
 | 0, _, _, _ => none
 | k + 1, x0, x1, x16 => if x16 = true then (some (0, false)) else (hopmeshref14_Find.l0 k x0 x1 (-1) 0)
def hopmeshref14_Find.l0 : Nat → List (S26) → ByteArray → Int → Int → Option (Int × Bool)
 | 0, _, _, _, _ => none
 | k + 1, x0, x1, x6, x7 => if x7 < (x0.length : Int) then (if 0 ≤ x7 then (if 0 ≤ (((rd_T26 x0 x7).f0).size : Int) then (if (((rd_T26 x0 x7).f0).size : Int) ≤ (x1.size : Int) then (if (x1.extract 0 ((((rd_T26 x0 x7).f0).size : Int) : Int).toNat).toList = ((rd_T26 x0 x7).f0).toList then (if x6 < 0 then (hopmeshref14_Find.j2 k x0 x1 x6 x7 true) else (if 0 ≤ x6 then (if x6 < (x0.length : Int) then (hopmeshref14_Find.j2 k x0 x1 x6 x7 (decide ((((rd_T26 x0 x7).f0).size : Int) > (((rd_T26 x0 x6).f0).size : Int)))) else (none)) else (none))) else (hopmeshref14_Find.j2 k x0 x1 x6 x7 false)) else (none)) else (none)) else (none)) else (some (mx x6 0, decide (x6 ≥ 0)))
def hopmeshref14_Find.j2 : Nat → List (S26) → ByteArray → Int → Int → Bool → Option (Int × Bool)
 | 0, _, _, _, _, _ => none
 | k + 1, x0, x1, x6, x7, x48 => if x48 = true then (hopmeshref14_Find.l0 k x0 x1 x7 (wrap64 (x7 + 1))) else (hopmeshref14_Find.l0 k x0 x1 x6 (wrap64 (x7 + 1)))
end
def hopmeshref14_Find.f (k : Nat) (l0 : List (S26)) (a1 : ByteArray) : Option (Int × Bool) := (hopmeshref14_Contexts.f k l0).bind fun t150 => (if t150 = 0 then (hopmeshref14_Find.j0 k l0 a1 ((a1.size : Int) != 4)) else (hopmeshref14_Find.j0 k l0 a1 true))
theorem hopmeshref14_Find.mono_l : ∀ k, (∀ y0 y1 y2, LeO (hopmeshref14_Find.j0 k y0 y1 y2) (hopmeshref14_Find.j0 (k + 1) y0 y1 y2)) ∧ (∀ y0 y1 y2 y3, LeO (hopmeshref14_Find.l0 k y0 y1 y2 y3) (hopmeshref14_Find.l0 (k + 1) y0 y1 y2 y3)) ∧ (∀ y0 y1 y2 y3 y4, LeO (hopmeshref14_Find.j2 k y0 y1 y2 y3 y4) (hopmeshref14_Find.j2 (k + 1) y0 y1 y2 y3 y4))
 | 0 => ⟨fun _ _ _ r h => by simp [hopmeshref14_Find.j0] at h, fun _ _ _ _ r h => by simp [hopmeshref14_Find.l0] at h, fun _ _ _ _ _ r h => by simp [hopmeshref14_Find.j2] at h⟩
 | k + 1 => by
  obtain ⟨ih0, ih1, ih2⟩ := hopmeshref14_Find.mono_l k
  refine ⟨?_, ?_, ?_⟩
  ·
   intro y0 y1 y2
   unfold hopmeshref14_Find.j0
   repeat' first
   | (with_reducible exact ih0 _ _ _)
   | (with_reducible exact ih1 _ _ _ _)
   | (with_reducible exact ih2 _ _ _ _ _)
   | (with_reducible exact hopmeshref14_Contexts.mono _ _)
   | (with_reducible exact LeO.refl _)
   | (with_reducible exact LeO.none _)
   | (with_reducible refine LeO.ite ?_ ?_)
   | (with_reducible refine LeO.bind ?_ (fun _ => ?_))
   | exact ih0 _ _ _
   | exact ih1 _ _ _ _
   | exact ih2 _ _ _ _ _
   | exact hopmeshref14_Contexts.mono _ _
   | exact LeO.none _
   | refine LeO.ite ?_ ?_
   | refine LeO.bind ?_ (fun _ => ?_)
  ·
   intro y0 y1 y2 y3
   unfold hopmeshref14_Find.l0
   repeat' first
   | (with_reducible exact ih0 _ _ _)
   | (with_reducible exact ih1 _ _ _ _)
   | (with_reducible exact ih2 _ _ _ _ _)
   | (with_reducible exact hopmeshref14_Contexts.mono _ _)
   | (with_reducible exact LeO.refl _)
   | (with_reducible exact LeO.none _)
   | (with_reducible refine LeO.ite ?_ ?_)
   | (with_reducible refine LeO.bind ?_ (fun _ => ?_))
   | exact ih0 _ _ _
   | exact ih1 _ _ _ _
   | exact ih2 _ _ _ _ _
   | exact hopmeshref14_Contexts.mono _ _
   | exact LeO.none _
   | refine LeO.ite ?_ ?_
   | refine LeO.bind ?_ (fun _ => ?_)
  ·
   intro y0 y1 y2 y3 y4
   unfold hopmeshref14_Find.j2
   repeat' first
   | (with_reducible exact ih0 _ _ _)
   | (with_reducible exact ih1 _ _ _ _)
   | (with_reducible exact ih2 _ _ _ _ _)
   | (with_reducible exact hopmeshref14_Contexts.mono _ _)
   | (with_reducible exact LeO.refl _)
   | (with_reducible exact LeO.none _)
   | (with_reducible refine LeO.ite ?_ ?_)
   | (with_reducible refine LeO.bind ?_ (fun _ => ?_))
   | exact ih0 _ _ _
   | exact ih1 _ _ _ _
   | exact ih2 _ _ _ _ _
   | exact hopmeshref14_Contexts.mono _ _
   | exact LeO.none _
   | refine LeO.ite ?_ ?_
   | refine LeO.bind ?_ (fun _ => ?_)
theorem hopmeshref14_Find.mono : ∀ a0 a1 k, LeO (hopmeshref14_Find.f k a0 a1) (hopmeshref14_Find.f (k + 1) a0 a1) := by
 intro a0 a1 k
 obtain ⟨ih0, ih1, ih2⟩ := hopmeshref14_Find.mono_l k
 unfold hopmeshref14_Find.f
 repeat' first
   | (with_reducible exact ih0 _ _ _)
   | (with_reducible exact ih1 _ _ _ _)
   | (with_reducible exact ih2 _ _ _ _ _)
   | (with_reducible exact hopmeshref14_Contexts.mono _ _)
   | (with_reducible exact LeO.refl _)
   | (with_reducible exact LeO.none _)
   | (with_reducible refine LeO.ite ?_ ?_)
   | (with_reducible refine LeO.bind ?_ (fun _ => ?_))
   | exact ih0 _ _ _
   | exact ih1 _ _ _ _
   | exact ih2 _ _ _ _ _
   | exact hopmeshref14_Contexts.mono _ _
   | exact LeO.none _
   | refine LeO.ite ?_ ?_
   | refine LeO.bind ?_ (fun _ => ?_)
set_option maxHeartbeats 8000000 in
set_option maxRecDepth 100000 in
theorem hopmeshref14_Find.calls (k : Nat) (A0 : Option Addr) (c0 : Nat) (l0 : List (S26)) (a1 : ByteArray) (r1 : Int) (r2 : Bool) (w : World) (hr0 : Kd.C k26 w A0 l0.length l0) (hc0 : l0.length ≤ c0) (h : hopmeshref14_Find.f k l0 a1 = some (r1, r2)) :
  Calls Try.prog 16 #[.slice A0 l0.length c0, .string a1] w fun e w' => e = .returned (.tuple #[.int .i64 r1, .bool r2]) ∧ Below w.heap.size w w' := by
 have HR0 := Aside0.mk hr0
 have HC0 := Aside0.mk hc0
 clear hr0 hc0
 have HB := Aside0.mk (Below.refl w.heap.size w)
 have H : ((hopmeshref14_Contexts.f k l0).bind fun t150 => (if t150 = 0 then (hopmeshref14_Find.j0 k l0 a1 ((a1.size : Int) != 4)) else (hopmeshref14_Find.j0 k l0 a1 true))) = some (r1, r2) := h
 clear h
 have HC3 := Aside0.mk H
 clear H
 go_enter Try.func16, Try.ntmps16
 go_upto_region 1 with (fail)
 go_cut [16] (fun v16 wc => ∃ (kq : Nat) (x16_2 : Bool), v16 = .bool x16_2 ∧ Aside0 (hopmeshref14_Find.j0 kq l0 a1 x16_2 = some (r1, r2)) ∧ Aside0 (kq ≤ k) ∧ Aside0 (Below w.heap.size w wc))
 case first =>
  have H := HC3.out
  clear HC3
  replace H := Option.bind_eq_some_iff.mp H
  obtain ⟨t150, A40, H⟩ := H
  replace H : (if t150 = 0 then (hopmeshref14_Find.j0 k l0 a1 ((a1.size : Int) != 4)) else (hopmeshref14_Find.j0 k l0 a1 true)) = some (r1, r2) := H
  have A4 := Aside0.mk A40
  clear A40
  by_cases c5 : t150 = 0
  ·
   rw [if_pos c5] at H
   have c5b0 : (t150 == 0) = true := beq_iff_eq.mpr c5
   have c5b1 : (t150 != 0) = false := bne_eq_false_iff_eq.mpr c5
   clear c5
   (first | rw [c5b0] | (simp only [i64_w, i32_w]; rw [c5b0]) | skip)
   have H' := Aside0.mk H
   clear H
   go_wp2_with (first | ((with_reducible refine gate_callee (f := 23) rfl ?_); refine goesL_ (some 10) rfl rfl Try.func23 (by kernel_rfl) rfl #[.slice A0 l0.length c0] rfl am_ ?_; (with_reducible refine (hopmeshref14_Contexts.calls k _ _ l0 t150 _ ?side1 ?side2 A4.out).mono ?_); (case side1 => repeat (first | exact (Kd.C_below HR0.out HB.out) | (with_reducible refine Kd.C_alloc ?_ _) | (with_reducible refine Kd.C_drewN ?_ _) | (with_reducible refine Kd.C_drew ?_))); (case side2 => exact HC0.out); rintro e w' ⟨rfl, ⟨nd, rfl⟩⟩; refine ⟨_, rfl, ?_⟩))
   go_meet
   case rel => exact ⟨_, (((a1.size : Int) != 4)), rl_, H', ⟨by first | omega | exact Nat.le_refl _⟩, ⟨hb_⟩⟩
  ·
   rw [if_neg c5] at H
   have c5b0 : (t150 == 0) = false := beq_eq_false_iff_ne.mpr c5
   have c5b1 : (t150 != 0) = true := bne_iff_ne.mpr c5
   (first | rw [c5b0] | (simp only [i64_w, i32_w]; rw [c5b0]) | skip)
   have H' := Aside0.mk H
   clear H
   go_wp2_with (first | ((with_reducible refine gate_callee (f := 23) rfl ?_); refine goesL_ (some 10) rfl rfl Try.func23 (by kernel_rfl) rfl #[.slice A0 l0.length c0] rfl am_ ?_; (with_reducible refine (hopmeshref14_Contexts.calls k _ _ l0 t150 _ ?side1 ?side2 A4.out).mono ?_); (case side1 => repeat (first | exact (Kd.C_below HR0.out HB.out) | (with_reducible refine Kd.C_alloc ?_ _) | (with_reducible refine Kd.C_drewN ?_ _) | (with_reducible refine Kd.C_drew ?_))); (case side2 => exact HC0.out); rintro e w' ⟨rfl, ⟨nd, rfl⟩⟩; refine ⟨_, rfl, ?_⟩))
   go_meet
   case rel => exact ⟨_, (true), rl_, H', ⟨by first | omega | exact Nat.le_refl _⟩, ⟨hb_⟩⟩
 case rest =>
  clear HC3
  try clear c1; try clear c2; try clear p2; try clear c5; try clear c5b0; try clear c5b1
  (repeat clear HB)
  obtain ⟨kq, x16_2, rfl, HA, HJ2, HB⟩ := hcut
  cases kq with
  | zero => exact absurd HA.out (by simp [hopmeshref14_Find.j0])
  | succ kj2 =>
   have H := HA.out
   clear HA
   simp only [hopmeshref14_Find.j0] at H
   by_cases c6 : x16_2 = true
   ·
    subst c6
    have H1 : (some (0, false)) = some (r1, r2) := by rw [if_pos rfl] at H; exact H
    clear H
    have H := H1
    clear H1
    simp only [Option.some.injEq, Prod.mk.injEq] at H
    obtain ⟨rfl, rfl⟩ := H
    go_wp2
    go_ret2
    exact ⟨er_, hb_⟩
   ·
    replace c6 := Bool.eq_false_iff.mpr c6
    subst c6
    have H1 : (hopmeshref14_Find.l0 kj2 l0 a1 (-1) 0) = some (r1, r2) := by rw [if_neg (show ¬ (false = true) by decide)] at H; exact H
    clear H
    have H := H1
    clear H1
    have H' := Aside0.mk H
    clear H
    go_wp2
    go_loopg [6, 7] kj2 (fun kq v6 v7 w' => ∃ (x6_2 : Int) (x7_2 : Int), v6 = .int .i64 x6_2 ∧ v7 = .int .i64 x7_2 ∧ Aside0 (hopmeshref14_Find.l0 kq l0 a1 x6_2 x7_2 = some (r1, r2)) ∧ Aside0 (kq ≤ kj2) ∧ Aside0 (Below w.heap.size w w'))
    case atStart => exact ⟨((-1)), (0), rl_, rl_, H', ⟨Nat.le_refl _⟩, ⟨hb_⟩⟩
    case round =>
     clear H'
     try clear c1; try clear c2; try clear p2; try clear c5; try clear c5b0; try clear c5b1; try clear c6; try clear p2
     (repeat clear HB)
     obtain ⟨x6_2, x7_2, rfl, rfl, HA, HK2, HB⟩ := hrel
     cases gk with
     | zero => exact absurd HA.out (by simp [hopmeshref14_Find.l0])
     | succ k2 =>
      have H := HA.out
      clear HA
      simp only [hopmeshref14_Find.l0] at H
      by_cases c7 : x7_2 < (l0.length : Int)
      ·
       rw [if_pos c7] at H
       have c7b0 : decide (x7_2 < (l0.length : Int)) = true := decide_eq_true c7
       clear c7
       by_cases c8 : 0 ≤ x7_2
       ·
        rw [if_pos c8] at H
        have c8b0 : decide (0 ≤ x7_2) = true := decide_eq_true c8
        clear c8
        have HC9 := Aside0.mk H
        clear H
        have p151 : 0 ≤ (x7_2 : Int) := of_decide_eq_true (by assumption)
        have q151 : x7_2 < (l0.length : Int) := of_decide_eq_true (by assumption)
        obtain ⟨ad151, e151, hx151_0⟩ := at_T26 HR0.out x7_2 p151 q151
        cases e151
        replace hx151_0 := (HB.out.cell (World.block_lt_of_cell? w _ hx151_0)).trans hx151_0
        replace p151 := eq_true p151
        replace q151 := eq_true q151
        go_upto_region 8 with (fail)
        go_cut [48] (fun v48 wc => ∃ (kq : Nat) (x48_8 : Bool), v48 = .bool x48_8 ∧ Aside0 (hopmeshref14_Find.j2 kq l0 a1 x6_2 x7_2 x48_8 = some (r1, r2)) ∧ Aside0 (kq ≤ k2) ∧ Aside0 (Below w.heap.size w wc))
        case first =>
         have H := HC9.out
         clear HC9
         by_cases c10 : 0 ≤ (((rd_T26 l0 x7_2).f0).size : Int)
         ·
          rw [if_pos c10] at H
          have c10b0 := eq_true c10
          have c10b1 : decide (0 ≤ (((rd_T26 l0 x7_2).f0).size : Int)) = true := decide_eq_true c10
          clear c10
          by_cases c11 : (((rd_T26 l0 x7_2).f0).size : Int) ≤ (a1.size : Int)
          ·
           rw [if_pos c11] at H
           have c11b0 := eq_true c11
           have c11b1 : decide ((((rd_T26 l0 x7_2).f0).size : Int) ≤ (a1.size : Int)) = true := decide_eq_true c11
           clear c11
           by_cases c12 : (a1.extract 0 ((((rd_T26 l0 x7_2).f0).size : Int) : Int).toNat).toList = ((rd_T26 l0 x7_2).f0).toList
           ·
            rw [if_pos c12] at H
            have c12b0 : ((a1.extract 0 ((((rd_T26 l0 x7_2).f0).size : Int) : Int).toNat).toList == ((rd_T26 l0 x7_2).f0).toList) = true := beq_iff_eq.mpr c12
            try simp only [Int.toNat_natCast] at c12b0
            have c12b1 : ((a1.extract 0 ((((rd_T26 l0 x7_2).f0).size : Int) : Int).toNat).toList != ((rd_T26 l0 x7_2).f0).toList) = false := bne_eq_false_iff_eq.mpr c12
            try simp only [Int.toNat_natCast] at c12b1
            clear c12
            (first | rw [c12b0] | (simp only [i64_w, i32_w]; rw [c12b0]) | skip)
            by_cases c13 : x6_2 < 0
            ·
             rw [if_pos c13] at H
             have c13b0 : decide (x6_2 < 0) = true := decide_eq_true c13
             clear c13
             have H' := Aside0.mk H
             clear H
             go_wp2
             go_meet
             case rel => exact ⟨_, (true), rl_, H', ⟨by have := HJ2.out; have := HK2.out; first | omega | exact Nat.le_refl _⟩, ⟨hb_⟩⟩
            ·
             rw [if_neg c13] at H
             have c13b0 : decide (x6_2 < 0) = false := decide_eq_false c13
             clear c13
             by_cases c14 : 0 ≤ x6_2
             ·
              rw [if_pos c14] at H
              have c14b0 : decide (0 ≤ x6_2) = true := decide_eq_true c14
              clear c14
              by_cases c15 : x6_2 < (l0.length : Int)
              ·
               rw [if_pos c15] at H
               have c15b0 : decide (x6_2 < (l0.length : Int)) = true := decide_eq_true c15
               clear c15
               have H' := Aside0.mk H
               clear H
               have p152 : 0 ≤ (x6_2 : Int) := of_decide_eq_true (by assumption)
               have q152 : x6_2 < (l0.length : Int) := of_decide_eq_true (by assumption)
               obtain ⟨ad152, e152, hx152_0⟩ := at_T26 HR0.out x6_2 p152 q152
               obtain rfl : ad151 = ad152 := (by injection e152)
               replace hx152_0 := (HB.out.cell (World.block_lt_of_cell? w _ hx152_0)).trans hx152_0
               replace p152 := eq_true p152
               replace q152 := eq_true q152
               go_wp2
               go_meet
               case rel => exact ⟨_, (decide ((((rd_T26 l0 x7_2).f0).size : Int) > (((rd_T26 l0 x6_2).f0).size : Int))), rl_, H', ⟨by have := HJ2.out; have := HK2.out; first | omega | exact Nat.le_refl _⟩, ⟨hb_⟩⟩
              ·
               rw [if_neg c15] at H
               exact absurd H (by simp)
             ·
              rw [if_neg c14] at H
              exact absurd H (by simp)
           ·
            rw [if_neg c12] at H
            have c12b0 : ((a1.extract 0 ((((rd_T26 l0 x7_2).f0).size : Int) : Int).toNat).toList == ((rd_T26 l0 x7_2).f0).toList) = false := beq_eq_false_iff_ne.mpr c12
            try simp only [Int.toNat_natCast] at c12b0
            have c12b1 : ((a1.extract 0 ((((rd_T26 l0 x7_2).f0).size : Int) : Int).toNat).toList != ((rd_T26 l0 x7_2).f0).toList) = true := bne_iff_ne.mpr c12
            try simp only [Int.toNat_natCast] at c12b1
            (first | rw [c12b0] | (simp only [i64_w, i32_w]; rw [c12b0]) | skip)
            have H' := Aside0.mk H
            clear H
            go_wp2
            go_meet
            case rel => exact ⟨_, (false), rl_, H', ⟨by have := HJ2.out; have := HK2.out; first | omega | exact Nat.le_refl _⟩, ⟨hb_⟩⟩
          ·
           rw [if_neg c11] at H
           exact absurd H (by simp)
         ·
          rw [if_neg c10] at H
          exact absurd H (by simp)
        case rest =>
         clear HC9
         try clear c1; try clear p1; try clear q1; try clear hx1; try clear c2; try clear p2; try clear c5; try clear c5b0; try clear c5b1; try clear c6; try clear c7; try clear c7b0; try clear c8; try clear c8b0; try clear c10; try clear c10b0; try clear c10b1; try clear c11; try clear c11b0; try clear c11b1; try clear c12; try clear c12b0; try clear c12b1; try clear c13; try clear c13b0; try clear c14; try clear c14b0; try clear c15; try clear c15b0; try clear p15; try clear q15; try clear hx15; try clear hx151_0; try clear hx152_0; try clear p151; try clear p152; try clear p2; try clear q151; try clear q152
         (repeat clear HB)
         obtain ⟨kq, x48_8, rfl, HA, HJ8, HB⟩ := hcut
         cases kq with
         | zero => exact absurd HA.out (by simp [hopmeshref14_Find.j2])
         | succ kj8 =>
          have H := HA.out
          clear HA
          simp only [hopmeshref14_Find.j2] at H
          by_cases c16 : x48_8 = true
          ·
           subst c16
           have H1 : (hopmeshref14_Find.l0 kj8 l0 a1 x7_2 (wrap64 (x7_2 + 1))) = some (r1, r2) := by rw [if_pos rfl] at H; exact H
           clear H
           have H := H1
           clear H1
           have H' := Aside0.mk H
           clear H
           go_wp2
           go_roundg kj8
           case measure => have := HJ2.out; have := HK2.out; have := HJ8.out; omega
           case rel => exact ⟨(x7_2), (wrap64 (x7_2 + 1)), rl_, rl_, H', ⟨by have := HJ2.out; have := HK2.out; have := HJ8.out; omega⟩, ⟨hb_⟩⟩
          ·
           replace c16 := Bool.eq_false_iff.mpr c16
           subst c16
           have H1 : (hopmeshref14_Find.l0 kj8 l0 a1 x6_2 (wrap64 (x7_2 + 1))) = some (r1, r2) := by rw [if_neg (show ¬ (false = true) by decide)] at H; exact H
           clear H
           have H := H1
           clear H1
           have H' := Aside0.mk H
           clear H
           go_wp2
           go_roundg kj8
           case measure => have := HJ2.out; have := HK2.out; have := HJ8.out; omega
           case rel => exact ⟨(x6_2), (wrap64 (x7_2 + 1)), rl_, rl_, H', ⟨by have := HJ2.out; have := HK2.out; have := HJ8.out; omega⟩, ⟨hb_⟩⟩
       ·
        rw [if_neg c8] at H
        exact absurd H (by simp)
      ·
       rw [if_neg c7] at H
       have c7b0 : decide (x7_2 < (l0.length : Int)) = false := decide_eq_false c7
       clear c7
       obtain ⟨ji17, hji17⟩ : ∃ j_ : Int, (mx x6_2 0) = j_ := ⟨_, rfl⟩
       replace H : (some (ji17, decide (x6_2 ≥ 0))) = some (r1, r2) := by first | (rw [hji17] at H; exact H) | (simp only [hji17] at H ⊢; exact H)
       have hji17_ : (if x6_2 < 0 then 0 else x6_2) = ji17 := hji17
       simp only [Option.some.injEq, Prod.mk.injEq] at H
       obtain ⟨rfl, rfl⟩ := H
       go_wp2
       go_ret2
       exact ⟨by first | rfl | (simp [errW_none, errW_some] <;> rfl) | (simp only [← hji17]; first | rfl | (simp [errW_none, errW_some] <;> rfl)) | (simp [*, errW_none, errW_some] <;> rfl), hb_⟩

end Go.Proofs.Ytmbbijhppgkdfaa.P14
