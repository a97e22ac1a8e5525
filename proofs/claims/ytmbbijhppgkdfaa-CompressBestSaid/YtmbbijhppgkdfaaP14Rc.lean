-- Written by a program of this session (wip/tools) over the kit's print; Lean checks it.
import Derived.Test.YtmbbijhppgkdfaaP140
import Derived.Test.YtmbbijhppgkdfaaP14Wi
namespace Go.Proofs.Ytmbbijhppgkdfaa.P14
open Go.RowKit Go.Proofs.YtmbbijhppgkdfaaW.PrintWords Go.Proofs.YtmbbijhppgkdfaaW.PrintLast Go.Proofs.YtmbbijhppgkdfaaW.PrintMore
attribute [local go_sem] max2_int min2_int max_two min_two max_three min_three max_four min_four   -- for this text's walks alone
set_option linter.unusedVariables false
set_option linter.unusedSimpArgs false

/-! ### hopmeshref14_Check: function 21 -/
def hopmeshref14_Check.j0 : Nat → Bool → Option (Int)
 | 0, _ => none
 | k + 1, x42 => if x42 = true then (some 1) else (some 0)
def hopmeshref14_Check.f (k : Nat) (a0_0 : Int) (a0_1 : Int) (a0_2 : ByteArray) (a0_3 : ByteArray) (a0_4 : Int) (a0_5 : Int) (a0_6 : Int) : Option (Int) := (hopmeshref14_within.f a0_0 255).bind fun t154 => (if t154 = true then ((hopmeshref14_within.f a0_1 255).bind fun t155 => (if t155 = true then (if (a0_2.size : Int) = 4 then (if (a0_3.size : Int) = 4 then ((hopmeshref14_within.f a0_4 65535).bind fun t156 => (if t156 = true then ((hopmeshref14_within.f a0_5 65535).bind fun t157 => (if t157 = true then ((hopmeshref14_within.f a0_6 4095).bind fun t158 => (hopmeshref14_Check.j0 k (!t158))) else (hopmeshref14_Check.j0 k true))) else (hopmeshref14_Check.j0 k true))) else (hopmeshref14_Check.j0 k true)) else (hopmeshref14_Check.j0 k true)) else (hopmeshref14_Check.j0 k true))) else (hopmeshref14_Check.j0 k true))
theorem hopmeshref14_Check.mono_l : ∀ k, (∀ y0, LeO (hopmeshref14_Check.j0 k y0) (hopmeshref14_Check.j0 (k + 1) y0))
 | 0 => fun _ r h => by simp [hopmeshref14_Check.j0] at h
 | k + 1 => by
  have ih0 := hopmeshref14_Check.mono_l k
  ·
   intro y0
   unfold hopmeshref14_Check.j0
   repeat' first
   | (with_reducible exact ih0 _)
   | (with_reducible exact LeO.refl _)
   | (with_reducible exact LeO.none _)
   | (with_reducible refine LeO.ite ?_ ?_)
   | (with_reducible refine LeO.bind ?_ (fun _ => ?_))
   | exact ih0 _
   | exact LeO.none _
   | refine LeO.ite ?_ ?_
   | refine LeO.bind ?_ (fun _ => ?_)
theorem hopmeshref14_Check.mono : ∀ a0 a1 a2 a3 a4 a5 a6 k, LeO (hopmeshref14_Check.f k a0 a1 a2 a3 a4 a5 a6) (hopmeshref14_Check.f (k + 1) a0 a1 a2 a3 a4 a5 a6) := by
 intro a0 a1 a2 a3 a4 a5 a6 k
 have ih0 := hopmeshref14_Check.mono_l k
 unfold hopmeshref14_Check.f
 repeat' first
   | (with_reducible exact ih0 _)
   | (with_reducible exact LeO.refl _)
   | (with_reducible exact LeO.none _)
   | (with_reducible refine LeO.ite ?_ ?_)
   | (with_reducible refine LeO.bind ?_ (fun _ => ?_))
   | exact ih0 _
   | exact LeO.none _
   | refine LeO.ite ?_ ?_
   | refine LeO.bind ?_ (fun _ => ?_)
set_option maxHeartbeats 8000000 in
set_option maxRecDepth 100000 in
theorem hopmeshref14_Check.calls (k : Nat) (a0_0 : Int) (a0_1 : Int) (a0_2 : ByteArray) (a0_3 : ByteArray) (a0_4 : Int) (a0_5 : Int) (a0_6 : Int) (r : Int) (w : World) (h : hopmeshref14_Check.f k a0_0 a0_1 a0_2 a0_3 a0_4 a0_5 a0_6 = some r) :
  Calls Try.prog 21 #[.agg #[.int .i64 a0_0, .int .i64 a0_1, .string a0_2, .string a0_3, .int .i64 a0_4, .int .i64 a0_5, .int .i64 a0_6]] w fun e w' => e = .returned (.int .i64 r) ∧ Below w.heap.size w w' := by
 have hu24 := Try.underlying24
 have HB := Aside0.mk (Below.refl w.heap.size w)
 have H : ((hopmeshref14_within.f a0_0 255).bind fun t154 => (if t154 = true then ((hopmeshref14_within.f a0_1 255).bind fun t155 => (if t155 = true then (if (a0_2.size : Int) = 4 then (if (a0_3.size : Int) = 4 then ((hopmeshref14_within.f a0_4 65535).bind fun t156 => (if t156 = true then ((hopmeshref14_within.f a0_5 65535).bind fun t157 => (if t157 = true then ((hopmeshref14_within.f a0_6 4095).bind fun t158 => (hopmeshref14_Check.j0 k (!t158))) else (hopmeshref14_Check.j0 k true))) else (hopmeshref14_Check.j0 k true))) else (hopmeshref14_Check.j0 k true)) else (hopmeshref14_Check.j0 k true)) else (hopmeshref14_Check.j0 k true))) else (hopmeshref14_Check.j0 k true))) = some r := h
 clear h
 have HC2 := Aside0.mk H
 clear H
 go_enter Try.func21, Try.ntmps21
 go_upto_region 1 with (first | ((with_reducible refine gate_dst (N := 1) rfl ?_); refine bx_ 1 #[.int .i64 a0_0, .int .i64 a0_1, .string a0_2, .string a0_3, .int .i64 a0_4, .int .i64 a0_5, .int .i64 a0_6] 24 ?_; intro gb153 hg w3 hbox hb; have n0_ := Aside0.mk (below_step hb_ hb); have n1_ := Aside0.mk (hbox); have n2_ := Aside0.mk ((by rw [hg]; exact (below_size hb_) : w.heap.size ≤ gb153)); have n3_ := Aside0.mk ((by rw [hg]; exact (below_size hb_) : w.heap.size ≤ gb153)); clear HB; have HB := n0_; have BK153 := n1_; have GW153 := n2_; have GE153 := n3_; clear n0_ n1_ n2_ n3_; clear hb hbox hg))
 (try simp only [Act.put, List.setIfInBounds_toArray, List.set_cons_zero, List.set_cons_succ])
 go_cut [42] (fun v42 wc => ∃ (kq : Nat) (x42_1 : Bool), v42 = .bool x42_1 ∧ Aside0 (hopmeshref14_Check.j0 kq x42_1 = some r) ∧ Aside0 (kq ≤ k) ∧ Aside0 (wc.heap[gb153]? = some (.cells #[.int .i64 a0_0, .int .i64 a0_1, .string a0_2, .string a0_3, .int .i64 a0_4, .int .i64 a0_5, .int .i64 a0_6] 24 (0, 0))) ∧ Aside0 (Below w.heap.size w wc))
 case first =>
  have H := HC2.out
  clear HC2
  replace H := Option.bind_eq_some_iff.mp H
  obtain ⟨t154, A40, H⟩ := H
  replace H : (if t154 = true then ((hopmeshref14_within.f a0_1 255).bind fun t155 => (if t155 = true then (if (a0_2.size : Int) = 4 then (if (a0_3.size : Int) = 4 then ((hopmeshref14_within.f a0_4 65535).bind fun t156 => (if t156 = true then ((hopmeshref14_within.f a0_5 65535).bind fun t157 => (if t157 = true then ((hopmeshref14_within.f a0_6 4095).bind fun t158 => (hopmeshref14_Check.j0 k (!t158))) else (hopmeshref14_Check.j0 k true))) else (hopmeshref14_Check.j0 k true))) else (hopmeshref14_Check.j0 k true)) else (hopmeshref14_Check.j0 k true)) else (hopmeshref14_Check.j0 k true))) else (hopmeshref14_Check.j0 k true)) = some r := H
  have A4 := Aside0.mk A40
  clear A40
  by_cases c5 : t154 = true
  ·
   subst c5
   have H1 : ((hopmeshref14_within.f a0_1 255).bind fun t155 => (if t155 = true then (if (a0_2.size : Int) = 4 then (if (a0_3.size : Int) = 4 then ((hopmeshref14_within.f a0_4 65535).bind fun t156 => (if t156 = true then ((hopmeshref14_within.f a0_5 65535).bind fun t157 => (if t157 = true then ((hopmeshref14_within.f a0_6 4095).bind fun t158 => (hopmeshref14_Check.j0 k (!t158))) else (hopmeshref14_Check.j0 k true))) else (hopmeshref14_Check.j0 k true))) else (hopmeshref14_Check.j0 k true)) else (hopmeshref14_Check.j0 k true)) else (hopmeshref14_Check.j0 k true))) = some r := by rw [if_pos rfl] at H; exact H
   clear H
   have H := H1
   clear H1
   replace H := Option.bind_eq_some_iff.mp H
   obtain ⟨t155, A60, H⟩ := H
   replace H : (if t155 = true then (if (a0_2.size : Int) = 4 then (if (a0_3.size : Int) = 4 then ((hopmeshref14_within.f a0_4 65535).bind fun t156 => (if t156 = true then ((hopmeshref14_within.f a0_5 65535).bind fun t157 => (if t157 = true then ((hopmeshref14_within.f a0_6 4095).bind fun t158 => (hopmeshref14_Check.j0 k (!t158))) else (hopmeshref14_Check.j0 k true))) else (hopmeshref14_Check.j0 k true))) else (hopmeshref14_Check.j0 k true)) else (hopmeshref14_Check.j0 k true)) else (hopmeshref14_Check.j0 k true)) = some r := H
   have A6 := Aside0.mk A60
   clear A60
   by_cases c7 : t155 = true
   ·
    subst c7
    have H1 : (if (a0_2.size : Int) = 4 then (if (a0_3.size : Int) = 4 then ((hopmeshref14_within.f a0_4 65535).bind fun t156 => (if t156 = true then ((hopmeshref14_within.f a0_5 65535).bind fun t157 => (if t157 = true then ((hopmeshref14_within.f a0_6 4095).bind fun t158 => (hopmeshref14_Check.j0 k (!t158))) else (hopmeshref14_Check.j0 k true))) else (hopmeshref14_Check.j0 k true))) else (hopmeshref14_Check.j0 k true)) else (hopmeshref14_Check.j0 k true)) = some r := by rw [if_pos rfl] at H; exact H
    clear H
    have H := H1
    clear H1
    by_cases c8 : (a0_2.size : Int) = 4
    ·
     rw [if_pos c8] at H
     have c8b0 : ((a0_2.size : Int) == 4) = true := beq_iff_eq.mpr c8
     have c8b1 : ((a0_2.size : Int) != 4) = false := bne_eq_false_iff_eq.mpr c8
     clear c8
     (first | rw [c8b0] | (simp only [i64_w, i32_w]; rw [c8b0]) | skip)
     by_cases c9 : (a0_3.size : Int) = 4
     ·
      rw [if_pos c9] at H
      have c9b0 : ((a0_3.size : Int) == 4) = true := beq_iff_eq.mpr c9
      have c9b1 : ((a0_3.size : Int) != 4) = false := bne_eq_false_iff_eq.mpr c9
      clear c9
      replace H := Option.bind_eq_some_iff.mp H
      obtain ⟨t156, A100, H⟩ := H
      replace H : (if t156 = true then ((hopmeshref14_within.f a0_5 65535).bind fun t157 => (if t157 = true then ((hopmeshref14_within.f a0_6 4095).bind fun t158 => (hopmeshref14_Check.j0 k (!t158))) else (hopmeshref14_Check.j0 k true))) else (hopmeshref14_Check.j0 k true)) = some r := H
      have A10 := Aside0.mk A100
      clear A100
      by_cases c11 : t156 = true
      ·
       subst c11
       have H1 : ((hopmeshref14_within.f a0_5 65535).bind fun t157 => (if t157 = true then ((hopmeshref14_within.f a0_6 4095).bind fun t158 => (hopmeshref14_Check.j0 k (!t158))) else (hopmeshref14_Check.j0 k true))) = some r := by rw [if_pos rfl] at H; exact H
       clear H
       have H := H1
       clear H1
       replace H := Option.bind_eq_some_iff.mp H
       obtain ⟨t157, A120, H⟩ := H
       replace H : (if t157 = true then ((hopmeshref14_within.f a0_6 4095).bind fun t158 => (hopmeshref14_Check.j0 k (!t158))) else (hopmeshref14_Check.j0 k true)) = some r := H
       have A12 := Aside0.mk A120
       clear A120
       by_cases c13 : t157 = true
       ·
        subst c13
        have H1 : ((hopmeshref14_within.f a0_6 4095).bind fun t158 => (hopmeshref14_Check.j0 k (!t158))) = some r := by rw [if_pos rfl] at H; exact H
        clear H
        have H := H1
        clear H1
        replace H := Option.bind_eq_some_iff.mp H
        obtain ⟨t158, A140, H⟩ := H
        replace H : (hopmeshref14_Check.j0 k (!t158)) = some r := H
        have A14 := Aside0.mk A140
        clear A140
        have H' := Aside0.mk H
        clear H
        have hcz15_0 := bc0 BK153
        have hcz15_1 := bc1 BK153
        have hcz15_2 := bc2 BK153
        have hcz15_3 := bc3 BK153
        have hcz15_4 := bc4 BK153
        have hcz15_5 := bc5 BK153
        have hcz15_6 := bc6 BK153
        have hfz15_0 := blk_frozen BK153.out 0
        have hfz15_1 := blk_frozen BK153.out 1
        have hfz15_2 := blk_frozen BK153.out 2
        have hfz15_3 := blk_frozen BK153.out 3
        have hfz15_4 := blk_frozen BK153.out 4
        have hfz15_5 := blk_frozen BK153.out 5
        have hfz15_6 := blk_frozen BK153.out 6
        go_wp2_with (first | ((with_reducible refine gate_callee (f := 42) rfl ?_); refine goesL_ (some 5) rfl rfl Try.func42 (by kernel_rfl) rfl #[.int .i64 a0_0, .int .i64 255] rfl am_ ?_; (with_reducible refine (hopmeshref14_within.calls a0_0 255 true _ A4.out).mono ?_); rintro e w' ⟨rfl, ⟨nd, rfl⟩⟩; refine ⟨_, rfl, ?_⟩) | (go_at_call 42; (with_reducible refine (hopmeshref14_within.calls a0_1 255 true _ A6.out).mono ?_); rintro e w' ⟨rfl, ⟨nd, rfl⟩⟩) | (go_at_call 42; (with_reducible refine (hopmeshref14_within.calls a0_4 65535 true _ A10.out).mono ?_); rintro e w' ⟨rfl, ⟨nd, rfl⟩⟩) | (go_at_call 42; (with_reducible refine (hopmeshref14_within.calls a0_5 65535 true _ A12.out).mono ?_); rintro e w' ⟨rfl, ⟨nd, rfl⟩⟩) | (go_at_call 42; (with_reducible refine (hopmeshref14_within.calls a0_6 4095 t158 _ A14.out).mono ?_); rintro e w' ⟨rfl, ⟨nd, rfl⟩⟩))
        go_meet
        case rel => exact ⟨_, (!t158), rl_, H', ⟨by first | omega | exact Nat.le_refl _⟩, ⟨bj_ BK153⟩, ⟨hb_⟩⟩
       ·
        replace c13 := Bool.eq_false_iff.mpr c13
        subst c13
        have H1 : (hopmeshref14_Check.j0 k true) = some r := by rw [if_neg (show ¬ (false = true) by decide)] at H; exact H
        clear H
        have H := H1
        clear H1
        have H' := Aside0.mk H
        clear H
        have hcz16_0 := bc0 BK153
        have hcz16_1 := bc1 BK153
        have hcz16_2 := bc2 BK153
        have hcz16_3 := bc3 BK153
        have hcz16_4 := bc4 BK153
        have hcz16_5 := bc5 BK153
        have hcz16_6 := bc6 BK153
        have hfz16_0 := blk_frozen BK153.out 0
        have hfz16_1 := blk_frozen BK153.out 1
        have hfz16_2 := blk_frozen BK153.out 2
        have hfz16_3 := blk_frozen BK153.out 3
        have hfz16_4 := blk_frozen BK153.out 4
        have hfz16_5 := blk_frozen BK153.out 5
        have hfz16_6 := blk_frozen BK153.out 6
        go_wp2_with (first | ((with_reducible refine gate_callee (f := 42) rfl ?_); refine goesL_ (some 5) rfl rfl Try.func42 (by kernel_rfl) rfl #[.int .i64 a0_0, .int .i64 255] rfl am_ ?_; (with_reducible refine (hopmeshref14_within.calls a0_0 255 true _ A4.out).mono ?_); rintro e w' ⟨rfl, ⟨nd, rfl⟩⟩; refine ⟨_, rfl, ?_⟩) | (go_at_call 42; (with_reducible refine (hopmeshref14_within.calls a0_1 255 true _ A6.out).mono ?_); rintro e w' ⟨rfl, ⟨nd, rfl⟩⟩) | (go_at_call 42; (with_reducible refine (hopmeshref14_within.calls a0_4 65535 true _ A10.out).mono ?_); rintro e w' ⟨rfl, ⟨nd, rfl⟩⟩) | (go_at_call 42; (with_reducible refine (hopmeshref14_within.calls a0_5 65535 false _ A12.out).mono ?_); rintro e w' ⟨rfl, ⟨nd, rfl⟩⟩))
        go_meet
        case rel => exact ⟨_, (true), rl_, H', ⟨by first | omega | exact Nat.le_refl _⟩, ⟨bj_ BK153⟩, ⟨hb_⟩⟩
      ·
       replace c11 := Bool.eq_false_iff.mpr c11
       subst c11
       have H1 : (hopmeshref14_Check.j0 k true) = some r := by rw [if_neg (show ¬ (false = true) by decide)] at H; exact H
       clear H
       have H := H1
       clear H1
       have H' := Aside0.mk H
       clear H
       have hcz17_0 := bc0 BK153
       have hcz17_1 := bc1 BK153
       have hcz17_2 := bc2 BK153
       have hcz17_3 := bc3 BK153
       have hcz17_4 := bc4 BK153
       have hcz17_5 := bc5 BK153
       have hcz17_6 := bc6 BK153
       have hfz17_0 := blk_frozen BK153.out 0
       have hfz17_1 := blk_frozen BK153.out 1
       have hfz17_2 := blk_frozen BK153.out 2
       have hfz17_3 := blk_frozen BK153.out 3
       have hfz17_4 := blk_frozen BK153.out 4
       have hfz17_5 := blk_frozen BK153.out 5
       have hfz17_6 := blk_frozen BK153.out 6
       go_wp2_with (first | ((with_reducible refine gate_callee (f := 42) rfl ?_); refine goesL_ (some 5) rfl rfl Try.func42 (by kernel_rfl) rfl #[.int .i64 a0_0, .int .i64 255] rfl am_ ?_; (with_reducible refine (hopmeshref14_within.calls a0_0 255 true _ A4.out).mono ?_); rintro e w' ⟨rfl, ⟨nd, rfl⟩⟩; refine ⟨_, rfl, ?_⟩) | (go_at_call 42; (with_reducible refine (hopmeshref14_within.calls a0_1 255 true _ A6.out).mono ?_); rintro e w' ⟨rfl, ⟨nd, rfl⟩⟩) | (go_at_call 42; (with_reducible refine (hopmeshref14_within.calls a0_4 65535 false _ A10.out).mono ?_); rintro e w' ⟨rfl, ⟨nd, rfl⟩⟩))
       go_meet
       case rel => exact ⟨_, (true), rl_, H', ⟨by first | omega | exact Nat.le_refl _⟩, ⟨bj_ BK153⟩, ⟨hb_⟩⟩
     ·
      rw [if_neg c9] at H
      have c9b0 : ((a0_3.size : Int) == 4) = false := beq_eq_false_iff_ne.mpr c9
      have c9b1 : ((a0_3.size : Int) != 4) = true := bne_iff_ne.mpr c9
      have H' := Aside0.mk H
      clear H
      have hcz18_0 := bc0 BK153
      have hcz18_1 := bc1 BK153
      have hcz18_2 := bc2 BK153
      have hcz18_3 := bc3 BK153
      have hcz18_4 := bc4 BK153
      have hcz18_5 := bc5 BK153
      have hcz18_6 := bc6 BK153
      have hfz18_0 := blk_frozen BK153.out 0
      have hfz18_1 := blk_frozen BK153.out 1
      have hfz18_2 := blk_frozen BK153.out 2
      have hfz18_3 := blk_frozen BK153.out 3
      have hfz18_4 := blk_frozen BK153.out 4
      have hfz18_5 := blk_frozen BK153.out 5
      have hfz18_6 := blk_frozen BK153.out 6
      go_wp2_with (first | ((with_reducible refine gate_callee (f := 42) rfl ?_); refine goesL_ (some 5) rfl rfl Try.func42 (by kernel_rfl) rfl #[.int .i64 a0_0, .int .i64 255] rfl am_ ?_; (with_reducible refine (hopmeshref14_within.calls a0_0 255 true _ A4.out).mono ?_); rintro e w' ⟨rfl, ⟨nd, rfl⟩⟩; refine ⟨_, rfl, ?_⟩) | (go_at_call 42; (with_reducible refine (hopmeshref14_within.calls a0_1 255 true _ A6.out).mono ?_); rintro e w' ⟨rfl, ⟨nd, rfl⟩⟩))
      go_meet
      case rel => exact ⟨_, (true), rl_, H', ⟨by first | omega | exact Nat.le_refl _⟩, ⟨bj_ BK153⟩, ⟨hb_⟩⟩
    ·
     rw [if_neg c8] at H
     have c8b0 : ((a0_2.size : Int) == 4) = false := beq_eq_false_iff_ne.mpr c8
     have c8b1 : ((a0_2.size : Int) != 4) = true := bne_iff_ne.mpr c8
     (first | rw [c8b0] | (simp only [i64_w, i32_w]; rw [c8b0]) | skip)
     have H' := Aside0.mk H
     clear H
     have hcz19_0 := bc0 BK153
     have hcz19_1 := bc1 BK153
     have hcz19_2 := bc2 BK153
     have hcz19_3 := bc3 BK153
     have hcz19_4 := bc4 BK153
     have hcz19_5 := bc5 BK153
     have hcz19_6 := bc6 BK153
     have hfz19_0 := blk_frozen BK153.out 0
     have hfz19_1 := blk_frozen BK153.out 1
     have hfz19_2 := blk_frozen BK153.out 2
     have hfz19_3 := blk_frozen BK153.out 3
     have hfz19_4 := blk_frozen BK153.out 4
     have hfz19_5 := blk_frozen BK153.out 5
     have hfz19_6 := blk_frozen BK153.out 6
     go_wp2_with (first | ((with_reducible refine gate_callee (f := 42) rfl ?_); refine goesL_ (some 5) rfl rfl Try.func42 (by kernel_rfl) rfl #[.int .i64 a0_0, .int .i64 255] rfl am_ ?_; (with_reducible refine (hopmeshref14_within.calls a0_0 255 true _ A4.out).mono ?_); rintro e w' ⟨rfl, ⟨nd, rfl⟩⟩; refine ⟨_, rfl, ?_⟩) | (go_at_call 42; (with_reducible refine (hopmeshref14_within.calls a0_1 255 true _ A6.out).mono ?_); rintro e w' ⟨rfl, ⟨nd, rfl⟩⟩))
     go_meet
     case rel => exact ⟨_, (true), rl_, H', ⟨by first | omega | exact Nat.le_refl _⟩, ⟨bj_ BK153⟩, ⟨hb_⟩⟩
   ·
    replace c7 := Bool.eq_false_iff.mpr c7
    subst c7
    have H1 : (hopmeshref14_Check.j0 k true) = some r := by rw [if_neg (show ¬ (false = true) by decide)] at H; exact H
    clear H
    have H := H1
    clear H1
    have H' := Aside0.mk H
    clear H
    have hcz20_0 := bc0 BK153
    have hcz20_1 := bc1 BK153
    have hcz20_2 := bc2 BK153
    have hcz20_3 := bc3 BK153
    have hcz20_4 := bc4 BK153
    have hcz20_5 := bc5 BK153
    have hcz20_6 := bc6 BK153
    have hfz20_0 := blk_frozen BK153.out 0
    have hfz20_1 := blk_frozen BK153.out 1
    have hfz20_2 := blk_frozen BK153.out 2
    have hfz20_3 := blk_frozen BK153.out 3
    have hfz20_4 := blk_frozen BK153.out 4
    have hfz20_5 := blk_frozen BK153.out 5
    have hfz20_6 := blk_frozen BK153.out 6
    go_wp2_with (first | ((with_reducible refine gate_callee (f := 42) rfl ?_); refine goesL_ (some 5) rfl rfl Try.func42 (by kernel_rfl) rfl #[.int .i64 a0_0, .int .i64 255] rfl am_ ?_; (with_reducible refine (hopmeshref14_within.calls a0_0 255 true _ A4.out).mono ?_); rintro e w' ⟨rfl, ⟨nd, rfl⟩⟩; refine ⟨_, rfl, ?_⟩) | (go_at_call 42; (with_reducible refine (hopmeshref14_within.calls a0_1 255 false _ A6.out).mono ?_); rintro e w' ⟨rfl, ⟨nd, rfl⟩⟩))
    go_meet
    case rel => exact ⟨_, (true), rl_, H', ⟨by first | omega | exact Nat.le_refl _⟩, ⟨bj_ BK153⟩, ⟨hb_⟩⟩
  ·
   replace c5 := Bool.eq_false_iff.mpr c5
   subst c5
   have H1 : (hopmeshref14_Check.j0 k true) = some r := by rw [if_neg (show ¬ (false = true) by decide)] at H; exact H
   clear H
   have H := H1
   clear H1
   have H' := Aside0.mk H
   clear H
   have hcz21_0 := bc0 BK153
   have hcz21_1 := bc1 BK153
   have hcz21_2 := bc2 BK153
   have hcz21_3 := bc3 BK153
   have hcz21_4 := bc4 BK153
   have hcz21_5 := bc5 BK153
   have hcz21_6 := bc6 BK153
   have hfz21_0 := blk_frozen BK153.out 0
   have hfz21_1 := blk_frozen BK153.out 1
   have hfz21_2 := blk_frozen BK153.out 2
   have hfz21_3 := blk_frozen BK153.out 3
   have hfz21_4 := blk_frozen BK153.out 4
   have hfz21_5 := blk_frozen BK153.out 5
   have hfz21_6 := blk_frozen BK153.out 6
   go_wp2_with (first | ((with_reducible refine gate_callee (f := 42) rfl ?_); refine goesL_ (some 5) rfl rfl Try.func42 (by kernel_rfl) rfl #[.int .i64 a0_0, .int .i64 255] rfl am_ ?_; (with_reducible refine (hopmeshref14_within.calls a0_0 255 false _ A4.out).mono ?_); rintro e w' ⟨rfl, ⟨nd, rfl⟩⟩; refine ⟨_, rfl, ?_⟩))
   go_meet
   case rel => exact ⟨_, (true), rl_, H', ⟨by first | omega | exact Nat.le_refl _⟩, ⟨bj_ BK153⟩, ⟨hb_⟩⟩
 case rest =>
  clear HC2
  try clear c1; try clear c2; try clear p2; try clear c4; try clear c5; try clear c7; try clear c8; try clear c8b0; try clear c8b1; try clear c9; try clear c9b0; try clear c9b1; try clear c11; try clear c13; try clear c21; try clear hcz15_0; try clear hcz15_1; try clear hcz15_2; try clear hcz15_3; try clear hcz15_4; try clear hcz15_5; try clear hcz15_6; try clear hcz16_0; try clear hcz16_1; try clear hcz16_2; try clear hcz16_3; try clear hcz16_4; try clear hcz16_5; try clear hcz16_6; try clear hcz17_0; try clear hcz17_1; try clear hcz17_2; try clear hcz17_3; try clear hcz17_4; try clear hcz17_5; try clear hcz17_6; try clear hcz18_0; try clear hcz18_1; try clear hcz18_2; try clear hcz18_3; try clear hcz18_4; try clear hcz18_5; try clear hcz18_6; try clear hcz19_0; try clear hcz19_1; try clear hcz19_2; try clear hcz19_3; try clear hcz19_4; try clear hcz19_5; try clear hcz19_6; try clear hcz20_0; try clear hcz20_1; try clear hcz20_2; try clear hcz20_3; try clear hcz20_4; try clear hcz20_5; try clear hcz20_6; try clear hcz21_0; try clear hcz21_1; try clear hcz21_2; try clear hcz21_3; try clear hcz21_4; try clear hcz21_5; try clear hcz21_6; try clear hfz15_0; try clear hfz15_1; try clear hfz15_2; try clear hfz15_3; try clear hfz15_4; try clear hfz15_5; try clear hfz15_6; try clear hfz16_0; try clear hfz16_1; try clear hfz16_2; try clear hfz16_3; try clear hfz16_4; try clear hfz16_5; try clear hfz16_6; try clear hfz17_0; try clear hfz17_1; try clear hfz17_2; try clear hfz17_3; try clear hfz17_4; try clear hfz17_5; try clear hfz17_6; try clear hfz18_0; try clear hfz18_1; try clear hfz18_2; try clear hfz18_3; try clear hfz18_4; try clear hfz18_5; try clear hfz18_6; try clear hfz19_0; try clear hfz19_1; try clear hfz19_2; try clear hfz19_3; try clear hfz19_4; try clear hfz19_5; try clear hfz19_6; try clear hfz20_0; try clear hfz20_1; try clear hfz20_2; try clear hfz20_3; try clear hfz20_4; try clear hfz20_5; try clear hfz20_6; try clear hfz21_0; try clear hfz21_1; try clear hfz21_2; try clear hfz21_3; try clear hfz21_4; try clear hfz21_5; try clear hfz21_6
  (repeat clear BK153); (repeat clear HB)
  obtain ⟨kq, x42_1, rfl, HA, HJ1, BK153, HB⟩ := hcut
  cases kq with
  | zero => exact absurd HA.out (by simp [hopmeshref14_Check.j0])
  | succ kj1 =>
   have H := HA.out
   clear HA
   simp only [hopmeshref14_Check.j0] at H
   by_cases c22 : x42_1 = true
   ·
    subst c22
    have H1 : (some 1) = some r := by rw [if_pos rfl] at H; exact H
    clear H
    have H := H1
    clear H1
    obtain rfl := Option.some.inj H
    go_wp2
    go_ret
    exact ⟨er_, hb_⟩
   ·
    replace c22 := Bool.eq_false_iff.mpr c22
    subst c22
    have H1 : (some 0) = some r := by rw [if_neg (show ¬ (false = true) by decide)] at H; exact H
    clear H
    have H := H1
    clear H1
    obtain rfl := Option.some.inj H
    go_wp2
    go_ret
    exact ⟨er_, hb_⟩

end Go.Proofs.Ytmbbijhppgkdfaa.P14
