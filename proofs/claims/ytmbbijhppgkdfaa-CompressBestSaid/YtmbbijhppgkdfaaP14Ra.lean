-- Written by a program of this session (wip/tools) over the kit's print; Lean checks it.
import Derived.Test.YtmbbijhppgkdfaaP140
import Derived.Test.YtmbbijhppgkdfaaP14R0
namespace Go.Proofs.Ytmbbijhppgkdfaa.P14
open Go.RowKit Go.Proofs.YtmbbijhppgkdfaaW.PrintWords Go.Proofs.YtmbbijhppgkdfaaW.PrintLast Go.Proofs.YtmbbijhppgkdfaaW.PrintMore
attribute [local go_sem] max2_int min2_int max_two min_two max_three min_three max_four min_four   -- for this text's walks alone
set_option linter.unusedVariables false
set_option linter.unusedSimpArgs false

/-! ### compress_readAddress: function 78 -/
mutual
def compress_readAddress.j0 : Nat → ByteArray → ByteArray → Int → Int → Option (ByteArray × Bool × ByteArray × Int × Int)
 | 0, _, _, _, _ => none
 | k + 1, x6, x1000, x1001, x1002 => compress_readAddress.l0 k x6 x1000 x1001 x1002
def compress_readAddress.l0 : Nat → ByteArray → ByteArray → Int → Int → Option (ByteArray × Bool × ByteArray × Int × Int)
 | 0, _, _, _, _ => none
 | k + 1, x6, x1000, x1001, x1002 => if (x6.size : Int) < 4 then ((bitio_Reader_Unsigned.f k x1000 x1001 x1002 8).bind fun bt459 => ((some (([(bt459.1) % 256] : List Int) : List Int)).bind fun y463 => (if x6.size + (strOfNums y463).size ≤ 9223372036854775807 then (compress_readAddress.l0 k (x6 ++ (strOfNums y463)) bt459.2.1 bt459.2.2.1 bt459.2.2.2) else (none)))) else (some (x6, true, x1000, x1001, x1002))
end
def compress_readAddress.f (k : Nat) (s0_0 : ByteArray) (s0_1 : Int) (s0_2 : Int) (l1 : List (S26)) : Option (ByteArray × Bool × ByteArray × Int × Int) := (bitio_Reader_Flag.f k s0_0 s0_1 s0_2).bind fun bt450 => (if bt450.1 = true then ((bitio_Reader_Unsigned.f k bt450.2.1 bt450.2.2.1 bt450.2.2.2 3).bind fun bt454 => (if bt454.1 ≥ (l1.length : Int) then (some ((⟨#[]⟩ : ByteArray), false, bt454.2.1, bt454.2.2.1, bt454.2.2.2)) else (if 0 ≤ bt454.1 then (if bt454.1 < (l1.length : Int) then (compress_readAddress.j0 k ((rd_T26 l1 bt454.1).f0) bt454.2.1 bt454.2.2.1 bt454.2.2.2) else (none)) else (none)))) else (compress_readAddress.j0 k (⟨#[]⟩ : ByteArray) bt450.2.1 bt450.2.2.1 bt450.2.2.2))
theorem compress_readAddress.mono_l : ∀ k, (∀ y0 y1 y2 y3, LeO (compress_readAddress.j0 k y0 y1 y2 y3) (compress_readAddress.j0 (k + 1) y0 y1 y2 y3)) ∧ (∀ y0 y1 y2 y3, LeO (compress_readAddress.l0 k y0 y1 y2 y3) (compress_readAddress.l0 (k + 1) y0 y1 y2 y3))
 | 0 => ⟨fun _ _ _ _ r h => by simp [compress_readAddress.j0] at h, fun _ _ _ _ r h => by simp [compress_readAddress.l0] at h⟩
 | k + 1 => by
  obtain ⟨ih0, ih1⟩ := compress_readAddress.mono_l k
  refine ⟨?_, ?_⟩
  ·
   intro y0 y1 y2 y3
   unfold compress_readAddress.j0
   repeat' first
   | (with_reducible exact ih0 _ _ _ _)
   | (with_reducible exact ih1 _ _ _ _)
   | (with_reducible exact bitio_Reader_Flag.mono _ _ _ _)
   | (with_reducible exact bitio_Reader_Unsigned.mono _ _ _ _ _)
   | (with_reducible exact LeO.refl _)
   | (with_reducible exact LeO.none _)
   | (with_reducible refine LeO.ite ?_ ?_)
   | (with_reducible refine LeO.bind ?_ (fun _ => ?_))
   | exact ih0 _ _ _ _
   | exact ih1 _ _ _ _
   | exact bitio_Reader_Flag.mono _ _ _ _
   | exact bitio_Reader_Unsigned.mono _ _ _ _ _
   | exact LeO.none _
   | refine LeO.ite ?_ ?_
   | refine LeO.bind ?_ (fun _ => ?_)
  ·
   intro y0 y1 y2 y3
   unfold compress_readAddress.l0
   repeat' first
   | (with_reducible exact ih0 _ _ _ _)
   | (with_reducible exact ih1 _ _ _ _)
   | (with_reducible exact bitio_Reader_Flag.mono _ _ _ _)
   | (with_reducible exact bitio_Reader_Unsigned.mono _ _ _ _ _)
   | (with_reducible exact LeO.refl _)
   | (with_reducible exact LeO.none _)
   | (with_reducible refine LeO.ite ?_ ?_)
   | (with_reducible refine LeO.bind ?_ (fun _ => ?_))
   | exact ih0 _ _ _ _
   | exact ih1 _ _ _ _
   | exact bitio_Reader_Flag.mono _ _ _ _
   | exact bitio_Reader_Unsigned.mono _ _ _ _ _
   | exact LeO.none _
   | refine LeO.ite ?_ ?_
   | refine LeO.bind ?_ (fun _ => ?_)
theorem compress_readAddress.mono : ∀ a0 a1 a2 a3 k, LeO (compress_readAddress.f k a0 a1 a2 a3) (compress_readAddress.f (k + 1) a0 a1 a2 a3) := by
 intro a0 a1 a2 a3 k
 obtain ⟨ih0, ih1⟩ := compress_readAddress.mono_l k
 unfold compress_readAddress.f
 repeat' first
   | (with_reducible exact ih0 _ _ _ _)
   | (with_reducible exact ih1 _ _ _ _)
   | (with_reducible exact bitio_Reader_Flag.mono _ _ _ _)
   | (with_reducible exact bitio_Reader_Unsigned.mono _ _ _ _ _)
   | (with_reducible exact LeO.refl _)
   | (with_reducible exact LeO.none _)
   | (with_reducible refine LeO.ite ?_ ?_)
   | (with_reducible refine LeO.bind ?_ (fun _ => ?_))
   | exact ih0 _ _ _ _
   | exact ih1 _ _ _ _
   | exact bitio_Reader_Flag.mono _ _ _ _
   | exact bitio_Reader_Unsigned.mono _ _ _ _ _
   | exact LeO.none _
   | refine LeO.ite ?_ ?_
   | refine LeO.bind ?_ (fun _ => ?_)
set_option maxHeartbeats 8000000 in
set_option maxRecDepth 100000 in
theorem compress_readAddress.calls (k : Nat) (g : Nat) (s0_0 : ByteArray) (s0_1 : Int) (s0_2 : Int) (A1 : Option Addr) (c1 : Nat) (l1 : List (S26)) (r1 : ByteArray) (r2 : Bool) (r3 : ByteArray) (r4 : Int) (r5 : Int) (w0 w : World) (hI : IsS105 w0 w g s0_0 s0_1 s0_2) (hB : Below w0.heap.size w0 w) (hr1 : ∀ W_, KeepBut w W_ g none → Kd.C k26 W_ A1 l1.length l1) (hc1 : l1.length ≤ c1) (h : compress_readAddress.f k s0_0 s0_1 s0_2 l1 = some (r1, r2, r3, r4, r5)) :
  Calls Try.prog 78 #[.pointer (some ⟨g, 0, none⟩), .slice A1 l1.length c1] w fun e w' => e = .returned (.tuple #[.string r1, .bool r2]) ∧ IsS105 w0 w' g r3 r4 r5 ∧ Below w0.heap.size w0 w' ∧ KeepBut w w' g none := by
 have HR1 := Aside0.mk hr1
 have HC1 := Aside0.mk hc1
 clear hr1 hc1
 have HI0 := Aside0.mk hI
 have HK := Aside0.mk (KeepBut.refl w g none)
 have HL := Aside0.mk hB.size
 clear hI
 have HW0 := Aside0.mk hB.size
 have HB := Aside0.mk hB
 clear hB
 have H : ((bitio_Reader_Flag.f k s0_0 s0_1 s0_2).bind fun bt450 => (if bt450.1 = true then ((bitio_Reader_Unsigned.f k bt450.2.1 bt450.2.2.1 bt450.2.2.2 3).bind fun bt454 => (if bt454.1 ≥ (l1.length : Int) then (some ((⟨#[]⟩ : ByteArray), false, bt454.2.1, bt454.2.2.1, bt454.2.2.2)) else (if 0 ≤ bt454.1 then (if bt454.1 < (l1.length : Int) then (compress_readAddress.j0 k ((rd_T26 l1 bt454.1).f0) bt454.2.1 bt454.2.2.1 bt454.2.2.2) else (none)) else (none)))) else (compress_readAddress.j0 k (⟨#[]⟩ : ByteArray) bt450.2.1 bt450.2.2.1 bt450.2.2.2))) = some (r1, r2, r3, r4, r5) := h
 clear h
 replace H := Option.bind_eq_some_iff.mp H
 obtain ⟨⟨t450, t451, t452, t453⟩, A30, H⟩ := H
 replace H : (if t450 = true then ((bitio_Reader_Unsigned.f k t451 t452 t453 3).bind fun bt454 => (if bt454.1 ≥ (l1.length : Int) then (some ((⟨#[]⟩ : ByteArray), false, bt454.2.1, bt454.2.2.1, bt454.2.2.2)) else (if 0 ≤ bt454.1 then (if bt454.1 < (l1.length : Int) then (compress_readAddress.j0 k ((rd_T26 l1 bt454.1).f0) bt454.2.1 bt454.2.2.1 bt454.2.2.2) else (none)) else (none)))) else (compress_readAddress.j0 k (⟨#[]⟩ : ByteArray) t451 t452 t453)) = some (r1, r2, r3, r4, r5) := H
 have A3 := Aside0.mk A30
 clear A30
 have HC4 := Aside0.mk H
 clear H
 go_enter Try.func78, Try.ntmps78
 go_upto_if 9 with (first | ((with_reducible refine gate_callee (f := 76) rfl ?_); refine goesL_ (some 9) rfl rfl Try.func76 (by kernel_rfl) rfl #[.pointer (some ⟨g, 0, none⟩)] rfl am_ ?_; (with_reducible refine (bitio_Reader_Flag.calls k g s0_0 s0_1 s0_2 t450 t451 t452 t453 w0 _ ?side1 ?side2 A3.out).mono ?_); (case side1 => repeat (first | (with_reducible first | exact HI0.out | apply IsS105.alloc | apply IsS105.drewN | apply IsS105.drew | apply IsS105.set_0 | apply IsS105.set_1 | apply IsS105.set_2) | exact HI0.out)); (case side2 => repeat (first | (with_reducible first | exact HB.out | apply below_alloc | apply pw_below_drewN | apply below_drew1 | refine below_set ?_ (IsS105.ge HI0.out)) | exact HB.out)); rintro e w5 ⟨rfl, hi, hb, hk⟩; refine ⟨_, rfl, ?_⟩; have n0_ := Aside0.mk (KeepBut.trans (by repeat (first | (with_reducible first | exact HK.out | apply KeepBut.set_ | apply keep_drewN | apply keep_drew | apply keep_alloc) | exact HK.out)) hk (.inl rfl)); have n1_ := Aside0.mk (hb); have n2_ := Aside0.mk (hi); clear HK; clear HB; clear HI0; have HK := n0_; have HB := n1_; have HI0 := n2_; clear n0_ n1_ n2_; (try clear hb); (try clear hb2); (try clear hk); (try clear hi)))
 (try simp only [Act.put, List.setIfInBounds_toArray, List.set_cons_zero, List.set_cons_succ])
 go_cut [6] (fun v6 wc => ∃ (kq : Nat) (x6_3 : ByteArray) (x1000_3 : ByteArray) (x1001_3 : Int) (x1002_3 : Int), v6 = .string x6_3 ∧ Aside0 (compress_readAddress.j0 kq x6_3 x1000_3 x1001_3 x1002_3 = some (r1, r2, r3, r4, r5)) ∧ Aside0 (kq ≤ k) ∧ Aside0 (IsS105 w0 wc g x1000_3 x1001_3 x1002_3) ∧ Aside0 (KeepBut w wc g none) ∧ Aside0 (Below w0.heap.size w0 wc))
 case first =>
  have H := HC4.out
  clear HC4
  by_cases c6 : t450 = true
  ·
   subst c6
   have H1 : ((bitio_Reader_Unsigned.f k t451 t452 t453 3).bind fun bt454 => (if bt454.1 ≥ (l1.length : Int) then (some ((⟨#[]⟩ : ByteArray), false, bt454.2.1, bt454.2.2.1, bt454.2.2.2)) else (if 0 ≤ bt454.1 then (if bt454.1 < (l1.length : Int) then (compress_readAddress.j0 k ((rd_T26 l1 bt454.1).f0) bt454.2.1 bt454.2.2.1 bt454.2.2.2) else (none)) else (none)))) = some (r1, r2, r3, r4, r5) := by rw [if_pos rfl] at H; exact H
   clear H
   have H := H1
   clear H1
   replace H := Option.bind_eq_some_iff.mp H
   obtain ⟨⟨t454, t455, t456, t457⟩, A70, H⟩ := H
   replace H : (if t454 ≥ (l1.length : Int) then (some ((⟨#[]⟩ : ByteArray), false, t455, t456, t457)) else (if 0 ≤ t454 then (if t454 < (l1.length : Int) then (compress_readAddress.j0 k ((rd_T26 l1 t454).f0) t455 t456 t457) else (none)) else (none))) = some (r1, r2, r3, r4, r5) := H
   have A7 := Aside0.mk A70
   clear A70
   by_cases c8 : t454 ≥ (l1.length : Int)
   ·
    rw [if_pos c8] at H
    have c8b0 : decide ((l1.length : Int) ≤ t454) = true := decide_eq_true c8
    clear c8
    (first | rw [c8b0] | (simp only [i64_w, i32_w]; rw [c8b0]) | skip)
    simp only [Option.some.injEq, Prod.mk.injEq] at H
    obtain ⟨rfl, rfl, rfl, rfl, rfl⟩ := H
    go_wp2_with (first | ((with_reducible refine gate_callee (f := 77) rfl ?_); refine goesL_ (some 11) rfl rfl Try.func77 (by kernel_rfl) rfl #[.pointer (some ⟨g, 0, none⟩), .int .i64 3] rfl am_ ?_; (with_reducible refine (bitio_Reader_Unsigned.calls k g t451 t452 t453 3 t454 t455 t456 t457 w0 _ ?side1 ?side2 A7.out).mono ?_); (case side1 => repeat (first | (with_reducible first | exact HI0.out | apply IsS105.alloc | apply IsS105.drewN | apply IsS105.drew | apply IsS105.set_0 | apply IsS105.set_1 | apply IsS105.set_2) | exact HI0.out)); (case side2 => repeat (first | (with_reducible first | exact HB.out | apply below_alloc | apply pw_below_drewN | apply below_drew1 | refine below_set ?_ (IsS105.ge HI0.out)) | exact HB.out)); rintro e w9 ⟨rfl, hi, hb, hk⟩; refine ⟨_, rfl, ?_⟩; have n0_ := Aside0.mk (KeepBut.trans (by repeat (first | (with_reducible first | exact HK.out | apply KeepBut.set_ | apply keep_drewN | apply keep_drew | apply keep_alloc) | exact HK.out)) hk (.inl rfl)); have n1_ := Aside0.mk (hb); have n2_ := Aside0.mk (hi); clear HK; clear HB; clear HI0; have HK := n0_; have HB := n1_; have HI0 := n2_; clear n0_ n1_ n2_; (try clear hb); (try clear hb2); (try clear hk); (try clear hi)))
    go_ret2
    exact ⟨er_, by repeat (first | (with_reducible first | exact HI0.out | apply IsS105.alloc | apply IsS105.drewN | apply IsS105.drew | apply IsS105.set_0 | apply IsS105.set_1 | apply IsS105.set_2) | exact HI0.out), by repeat (first | (with_reducible first | exact HB.out | apply below_alloc | apply pw_below_drewN | apply below_drew1 | refine below_set ?_ (IsS105.ge HI0.out)) | exact HB.out), by repeat (first | (with_reducible first | exact HK.out | apply KeepBut.set_ | apply keep_drewN | apply keep_drew | apply keep_alloc) | exact HK.out)⟩
   ·
    rw [if_neg c8] at H
    have c8b0 : decide ((l1.length : Int) ≤ t454) = false := decide_eq_false c8
    clear c8
    (first | rw [c8b0] | (simp only [i64_w, i32_w]; rw [c8b0]) | skip)
    by_cases c10 : 0 ≤ t454
    ·
     rw [if_pos c10] at H
     have c10b0 : decide (0 ≤ t454) = true := decide_eq_true c10
     clear c10
     by_cases c11 : t454 < (l1.length : Int)
     ·
      rw [if_pos c11] at H
      have c11b0 : decide (t454 < (l1.length : Int)) = true := decide_eq_true c11
      clear c11
      have H' := Aside0.mk H
      clear H
      go_wp2_with (first | ((with_reducible refine gate_callee (f := 77) rfl ?_); refine goesL_ (some 11) rfl rfl Try.func77 (by kernel_rfl) rfl #[.pointer (some ⟨g, 0, none⟩), .int .i64 3] rfl am_ ?_; (with_reducible refine (bitio_Reader_Unsigned.calls k g t451 t452 t453 3 t454 t455 t456 t457 w0 _ ?side1 ?side2 A7.out).mono ?_); (case side1 => repeat (first | (with_reducible first | exact HI0.out | apply IsS105.alloc | apply IsS105.drewN | apply IsS105.drew | apply IsS105.set_0 | apply IsS105.set_1 | apply IsS105.set_2) | exact HI0.out)); (case side2 => repeat (first | (with_reducible first | exact HB.out | apply below_alloc | apply pw_below_drewN | apply below_drew1 | refine below_set ?_ (IsS105.ge HI0.out)) | exact HB.out)); rintro e w12 ⟨rfl, hi, hb, hk⟩; refine ⟨_, rfl, ?_⟩; have n0_ := Aside0.mk (KeepBut.trans (by repeat (first | (with_reducible first | exact HK.out | apply KeepBut.set_ | apply keep_drewN | apply keep_drew | apply keep_alloc) | exact HK.out)) hk (.inl rfl)); have n1_ := Aside0.mk (hb); have n2_ := Aside0.mk (hi); clear HK; clear HB; clear HI0; have HK := n0_; have HB := n1_; have HI0 := n2_; clear n0_ n1_ n2_; (try clear hb); (try clear hb2); (try clear hk); (try clear hi); have p458 : 0 ≤ (t454 : Int) := of_decide_eq_true (by assumption); have q458 : t454 < (l1.length : Int) := of_decide_eq_true (by assumption); obtain ⟨ad458, e458, hx458_0⟩ := at_T26 (Kd.C_foot_now HR1.out HK.out) t454 p458 q458; cases e458; replace p458 := eq_true p458; replace q458 := eq_true q458))
      go_meet
      case rel => exact ⟨_, ((rd_T26 l1 t454).f0), (t455), (t456), (t457), rl_, H', ⟨by first | omega | exact Nat.le_refl _⟩, ⟨by repeat (first | (with_reducible first | exact HI0.out | apply IsS105.alloc | apply IsS105.drewN | apply IsS105.drew | apply IsS105.set_0 | apply IsS105.set_1 | apply IsS105.set_2) | exact HI0.out)⟩, ⟨by repeat (first | (with_reducible first | exact HK.out | apply KeepBut.set_ | apply keep_drewN | apply keep_drew | apply keep_alloc) | exact HK.out)⟩, ⟨by repeat (first | (with_reducible first | exact HB.out | apply below_alloc | apply pw_below_drewN | apply below_drew1 | refine below_set ?_ (IsS105.ge HI0.out)) | exact HB.out)⟩⟩
     ·
      rw [if_neg c11] at H
      exact absurd H (by simp)
    ·
     rw [if_neg c10] at H
     exact absurd H (by simp)
  ·
   replace c6 := Bool.eq_false_iff.mpr c6
   subst c6
   have H1 : (compress_readAddress.j0 k (⟨#[]⟩ : ByteArray) t451 t452 t453) = some (r1, r2, r3, r4, r5) := by rw [if_neg (show ¬ (false = true) by decide)] at H; exact H
   clear H
   have H := H1
   clear H1
   have H' := Aside0.mk H
   clear H
   go_wp2
   go_meet
   case rel => exact ⟨_, ((⟨#[]⟩ : ByteArray)), (t451), (t452), (t453), rl_, H', ⟨by first | omega | exact Nat.le_refl _⟩, ⟨by repeat (first | (with_reducible first | exact HI0.out | apply IsS105.alloc | apply IsS105.drewN | apply IsS105.drew | apply IsS105.set_0 | apply IsS105.set_1 | apply IsS105.set_2) | exact HI0.out)⟩, ⟨by repeat (first | (with_reducible first | exact HK.out | apply KeepBut.set_ | apply keep_drewN | apply keep_drew | apply keep_alloc) | exact HK.out)⟩, ⟨by repeat (first | (with_reducible first | exact HB.out | apply below_alloc | apply pw_below_drewN | apply below_drew1 | refine below_set ?_ (IsS105.ge HI0.out)) | exact HB.out)⟩⟩
 case rest =>
  clear HC4
  try clear c1; try clear p2; try clear p4; try clear q4; try clear hx4; try clear c6; try clear c7; try clear c8; try clear c8b0; try clear c10; try clear c10b0; try clear c11; try clear c11b0; try clear hx458_0; try clear p458; try clear q458
  (repeat clear HB)
  obtain ⟨kq, x6_3, x1000_3, x1001_3, x1002_3, rfl, HA, HJ3, HI0, HK, HB⟩ := hcut
  cases kq with
  | zero => exact absurd HA.out (by simp [compress_readAddress.j0])
  | succ kj3 =>
   have H := HA.out
   clear HA
   simp only [compress_readAddress.j0] at H
   have H' := Aside0.mk H
   clear H
   go_wp2
   go_loopg [6] kj3 (fun kq v6 w' => ∃ (x6_2 : ByteArray) (x1000_2 : ByteArray) (x1001_2 : Int) (x1002_2 : Int), v6 = .string x6_2 ∧ Aside0 (compress_readAddress.l0 kq x6_2 x1000_2 x1001_2 x1002_2 = some (r1, r2, r3, r4, r5)) ∧ Aside0 (kq ≤ kj3) ∧ Aside0 (IsS105 w0 w' g x1000_2 x1001_2 x1002_2) ∧ Aside0 (KeepBut w w' g none) ∧ Aside0 (Below w0.heap.size w0 w'))
   case atStart => exact ⟨(x6_3), (x1000_3), (x1001_3), (x1002_3), rl_, H', ⟨Nat.le_refl _⟩, ⟨by repeat (first | (with_reducible first | exact HI0.out | apply IsS105.alloc | apply IsS105.drewN | apply IsS105.drew | apply IsS105.set_0 | apply IsS105.set_1 | apply IsS105.set_2) | exact HI0.out)⟩, ⟨by repeat (first | (with_reducible first | exact HK.out | apply KeepBut.set_ | apply keep_drewN | apply keep_drew | apply keep_alloc) | exact HK.out)⟩, ⟨by repeat (first | (with_reducible first | exact HB.out | apply below_alloc | apply pw_below_drewN | apply below_drew1 | refine below_set ?_ (IsS105.ge HI0.out)) | exact HB.out)⟩⟩
   case round =>
    clear H'
    try clear c1; try clear p2; try clear p4; try clear q4; try clear hx4; try clear c6; try clear c7; try clear c8; try clear c8b0; try clear c10; try clear c10b0; try clear c11; try clear c11b0; try clear hx458_0; try clear p2; try clear p4; try clear p458; try clear q4; try clear q458
    (repeat clear HB)
    obtain ⟨x6_2, x1000_2, x1001_2, x1002_2, rfl, HA, HK2, HI0, HK, HB⟩ := hrel
    cases gk with
    | zero => exact absurd HA.out (by simp [compress_readAddress.l0])
    | succ k2 =>
     have H := HA.out
     clear HA
     simp only [compress_readAddress.l0] at H
     by_cases c13 : (x6_2.size : Int) < 4
     ·
      rw [if_pos c13] at H
      have c13b0 : decide ((x6_2.size : Int) < 4) = true := decide_eq_true c13
      have c13b1 : decide (x6_2.size < 4) = true := decide_eq_true (by omega)
      clear c13
      replace H := Option.bind_eq_some_iff.mp H
      obtain ⟨⟨t459, t460, t461, t462⟩, A140, H⟩ := H
      replace H : ((some (([(t459) % 256] : List Int) : List Int)).bind fun y463 => (if x6_2.size + (strOfNums y463).size ≤ 9223372036854775807 then (compress_readAddress.l0 k2 (x6_2 ++ (strOfNums y463)) t460 t461 t462) else (none))) = some (r1, r2, r3, r4, r5) := H
      have A14 := Aside0.mk A140
      clear A140
      obtain ⟨y463, hy463⟩ : ∃ y_ : List Int, y_ = (([(t459) % 256] : List Int)) := ⟨_, rfl⟩
      replace H : (if x6_2.size + (strOfNums y463).size ≤ 9223372036854775807 then (compress_readAddress.l0 k2 (x6_2 ++ (strOfNums y463)) t460 t461 t462) else (none)) = some (r1, r2, r3, r4, r5) := by first | (rw [hy463]; with_reducible exact H) | (have H2_ := (Option.bind_some _ _).symm.trans H; rw [hy463]; with_reducible exact H2_) | (have H2_ := (Option.bind_some _ _).symm.trans H; with_reducible exact H2_) | with_reducible exact H | (rw [hy463]; exact H) | exact H
      have Ny463 := Aside0.mk hy463
      clear hy463
      by_cases c15 : x6_2.size + (strOfNums y463).size ≤ 9223372036854775807
      ·
       rw [if_pos c15] at H
       have c15b0 := eq_true c15
       have c15b1 : decide (x6_2.size + (strOfNums y463).size ≤ 9223372036854775807) = true := decide_eq_true c15
       try have c15b2 : (9223372036854775807 < x6_2.size + (strOfNums y463).size) = False := eq_false (Nat.not_lt.2 c15)
       have H' := Aside0.mk H
       clear H
       go_wp2_with (first | ((with_reducible refine gate_callee (f := 77) rfl ?_); refine goesL_ (some 26) rfl rfl Try.func77 (by kernel_rfl) rfl #[.pointer (some ⟨g, 0, none⟩), .int .i64 8] rfl am_ ?_; (with_reducible refine (bitio_Reader_Unsigned.calls k2 g x1000_2 x1001_2 x1002_2 8 t459 t460 t461 t462 w0 _ ?side1 ?side2 A14.out).mono ?_); (case side1 => repeat (first | (with_reducible first | exact HI0.out | apply IsS105.alloc | apply IsS105.drewN | apply IsS105.drew | apply IsS105.set_0 | apply IsS105.set_1 | apply IsS105.set_2) | exact HI0.out)); (case side2 => repeat (first | (with_reducible first | exact HB.out | apply below_alloc | apply pw_below_drewN | apply below_drew1 | refine below_set ?_ (IsS105.ge HI0.out)) | exact HB.out)); rintro e w16 ⟨rfl, hi, hb, hk⟩; refine ⟨_, rfl, ?_⟩; have n0_ := Aside0.mk (KeepBut.trans (by repeat (first | (with_reducible first | exact HK.out | apply KeepBut.set_ | apply keep_drewN | apply keep_drew | apply keep_alloc) | exact HK.out)) hk (.inl rfl)); have n1_ := Aside0.mk (hb); have n2_ := Aside0.mk (hi); clear HK; clear HB; clear HI0; have HK := n0_; have HB := n1_; have HI0 := n2_; clear n0_ n1_ n2_; (try clear hb); (try clear hb2); (try clear hk); (try clear hi)) | ((with_reducible refine gate_dst (N := 28) rfl ?_); refine Kd.R_lit (Kd.int .u8) _ 5 ?hg (N := 28) ?hd (xs := ([(t459) % 256] : List Int)) (inner := [.int .u8 ((t459) % 256)]) (ok := fun _ => True) (okp := fun _ => True) ?hr ?hp (fun _ hk => hk) trivial (Below.refl _ _) (Nat.le_refl _) (by simp) ?_; (case hd => rfl); (case hg => rfl); (case hr => first | (go_simp; done) | (go_simp; rfl)); (case hp => exact (Reps.one (show Kd.M (Kd.int .u8) _ _ _ ((t459) % 256) [.int .u8 ((t459) % 256)] from rfl) (Reps.none _ _))); intro v464 w17 ho18 hb hg_ hnew_; clear hg_ hnew_; (first | rw [← Ny463.out] at ho18 | (simp only [Int.reduceToNat] at ho18; rw [← Ny463.out] at ho18)); have n0_ := Aside0.mk (Kd.R_lower ho18 (keep_size (w := w) (g := g) (row := none) (by repeat (first | (with_reducible first | exact HK.out | apply KeepBut.set_ | apply keep_drewN | apply keep_drew | apply keep_alloc) | exact HK.out)))); have n1_ := Aside0.mk (IsS105.below (by repeat (first | (with_reducible first | exact HI0.out | apply IsS105.alloc | apply IsS105.drewN | apply IsS105.drew | apply IsS105.set_0 | apply IsS105.set_1 | apply IsS105.set_2) | exact HI0.out)) hb); have n2_ := Aside0.mk (KeepBut.trans (by repeat (first | (with_reducible first | exact HK.out | apply KeepBut.set_ | apply keep_drewN | apply keep_drew | apply keep_alloc) | exact HK.out)) (KeepBut.of_below hb g none) (.inl rfl)); have n3_ := Aside0.mk (below_step (by repeat (first | (with_reducible first | exact HB.out | apply below_alloc | apply pw_below_drewN | apply below_drew1 | refine below_set ?_ (IsS105.ge HI0.out)) | exact HB.out)) hb); clear HI0; clear HK; clear HB; have HO465 := n0_; have HI0 := n1_; have HK := n2_; have HB := n3_; clear n0_ n1_ n2_ n3_; clear hb ho18; have hcv19 := own_string (P := Try.prog) Try.underlying92 Try.underlying5 Try.underlying9 (Kd.own_of_R HO465.out)))
       go_roundg k2
       case measure => have := HJ3.out; have := HK2.out; omega
       case rel => exact ⟨(x6_2 ++ (strOfNums y463)), (t460), (t461), (t462), rl_, H', ⟨by have := HJ3.out; have := HK2.out; omega⟩, ⟨by repeat (first | (with_reducible first | exact HI0.out | apply IsS105.alloc | apply IsS105.drewN | apply IsS105.drew | apply IsS105.set_0 | apply IsS105.set_1 | apply IsS105.set_2) | exact HI0.out)⟩, ⟨by repeat (first | (with_reducible first | exact HK.out | apply KeepBut.set_ | apply keep_drewN | apply keep_drew | apply keep_alloc) | exact HK.out)⟩, ⟨by repeat (first | (with_reducible first | exact HB.out | apply below_alloc | apply pw_below_drewN | apply below_drew1 | refine below_set ?_ (IsS105.ge HI0.out)) | exact HB.out)⟩⟩
      ·
       rw [if_neg c15] at H
       exact absurd H (by simp)
     ·
      rw [if_neg c13] at H
      have c13b0 : decide ((x6_2.size : Int) < 4) = false := decide_eq_false c13
      have c13b1 : decide (x6_2.size < 4) = false := decide_eq_false (by omega)
      clear c13
      simp only [Option.some.injEq, Prod.mk.injEq] at H
      obtain ⟨rfl, rfl, rfl, rfl, rfl⟩ := H
      go_wp2
      go_ret2
      exact ⟨er_, by repeat (first | (with_reducible first | exact HI0.out | apply IsS105.alloc | apply IsS105.drewN | apply IsS105.drew | apply IsS105.set_0 | apply IsS105.set_1 | apply IsS105.set_2) | exact HI0.out), by repeat (first | (with_reducible first | exact HB.out | apply below_alloc | apply pw_below_drewN | apply below_drew1 | refine below_set ?_ (IsS105.ge HI0.out)) | exact HB.out), by repeat (first | (with_reducible first | exact HK.out | apply KeepBut.set_ | apply keep_drewN | apply keep_drew | apply keep_alloc) | exact HK.out)⟩

end Go.Proofs.Ytmbbijhppgkdfaa.P14
