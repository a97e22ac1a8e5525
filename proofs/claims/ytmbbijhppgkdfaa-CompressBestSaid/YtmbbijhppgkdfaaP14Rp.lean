-- Written by a program of this session (wip/tools) over the kit's print; Lean checks it.
import Derived.Test.YtmbbijhppgkdfaaP140
import Derived.Test.YtmbbijhppgkdfaaP14R0
namespace Go.Proofs.Ytmbbijhppgkdfaa.P14
open Go.RowKit Go.Proofs.YtmbbijhppgkdfaaW.PrintWords Go.Proofs.YtmbbijhppgkdfaaW.PrintLast Go.Proofs.YtmbbijhppgkdfaaW.PrintMore
attribute [local go_sem] max2_int min2_int max_two min_two max_three min_three max_four min_four   -- for this text's walks alone
set_option linter.unusedVariables false
set_option linter.unusedSimpArgs false

/-! ### compress_readPorts: function 79 -/
def compress_readPorts.f (k : Nat) (s0_0 : ByteArray) (s0_1 : Int) (s0_2 : Int) : Option (Int × Int × ByteArray × Int × Int) := (bitio_Reader_Unsigned.f k s0_0 s0_1 s0_2 2).bind fun bt466 => (if bt466.1 = 3 then ((bitio_Reader_Unsigned.f k bt466.2.1 bt466.2.2.1 bt466.2.2.2 4).bind fun bt470 => ((bitio_Reader_Unsigned.f k bt470.2.1 bt470.2.2.1 bt470.2.2.2 4).bind fun bt474 => (some (wrap64 (bt470.1 + 61616), wrap64 (bt474.1 + 61616), bt474.2.1, bt474.2.2.1, bt474.2.2.2)))) else (if bt466.1 = 1 then ((bitio_Reader_Unsigned.f k bt466.2.1 bt466.2.2.1 bt466.2.2.2 16).bind fun bt478 => (some (bt478.1, bt478.1, bt478.2.1, bt478.2.2.1, bt478.2.2.2))) else (if bt466.1 = 2 then ((bitio_Reader_Unsigned.f k bt466.2.1 bt466.2.2.1 bt466.2.2.2 8).bind fun bt482 => ((bitio_Reader_Unsigned.f k bt482.2.1 bt482.2.2.1 bt482.2.2.2 16).bind fun bt486 => (some (wrap64 (bt482.1 + 61440), bt486.1, bt486.2.1, bt486.2.2.1, bt486.2.2.2)))) else ((bitio_Reader_Unsigned.f k bt466.2.1 bt466.2.2.1 bt466.2.2.2 16).bind fun bt490 => ((bitio_Reader_Unsigned.f k bt490.2.1 bt490.2.2.1 bt490.2.2.2 16).bind fun bt494 => (some (bt490.1, bt494.1, bt494.2.1, bt494.2.2.1, bt494.2.2.2)))))))
theorem compress_readPorts.mono : ∀ a0 a1 a2 k, LeO (compress_readPorts.f k a0 a1 a2) (compress_readPorts.f (k + 1) a0 a1 a2) := by
 intro a0 a1 a2 k
 unfold compress_readPorts.f
 repeat' first
   | (with_reducible exact bitio_Reader_Unsigned.mono _ _ _ _ _)
   | (with_reducible exact LeO.refl _)
   | (with_reducible exact LeO.none _)
   | (with_reducible refine LeO.ite ?_ ?_)
   | (with_reducible refine LeO.bind ?_ (fun _ => ?_))
   | exact bitio_Reader_Unsigned.mono _ _ _ _ _
   | exact LeO.none _
   | refine LeO.ite ?_ ?_
   | refine LeO.bind ?_ (fun _ => ?_)
set_option maxHeartbeats 8000000 in
set_option maxRecDepth 100000 in
theorem compress_readPorts.calls (k : Nat) (g : Nat) (s0_0 : ByteArray) (s0_1 : Int) (s0_2 : Int) (r1 : Int) (r2 : Int) (r3 : ByteArray) (r4 : Int) (r5 : Int) (w0 w : World) (hI : IsS105 w0 w g s0_0 s0_1 s0_2) (hB : Below w0.heap.size w0 w) (h : compress_readPorts.f k s0_0 s0_1 s0_2 = some (r1, r2, r3, r4, r5)) :
  Calls Try.prog 79 #[.pointer (some ⟨g, 0, none⟩)] w fun e w' => e = .returned (.tuple #[.int .i64 r1, .int .i64 r2]) ∧ IsS105 w0 w' g r3 r4 r5 ∧ Below w0.heap.size w0 w' ∧ KeepBut w w' g none := by
 have HI0 := Aside0.mk hI
 have HK := Aside0.mk (KeepBut.refl w g none)
 have HL := Aside0.mk hB.size
 clear hI
 have HW0 := Aside0.mk hB.size
 have HB := Aside0.mk hB
 clear hB
 have H : ((bitio_Reader_Unsigned.f k s0_0 s0_1 s0_2 2).bind fun bt466 => (if bt466.1 = 3 then ((bitio_Reader_Unsigned.f k bt466.2.1 bt466.2.2.1 bt466.2.2.2 4).bind fun bt470 => ((bitio_Reader_Unsigned.f k bt470.2.1 bt470.2.2.1 bt470.2.2.2 4).bind fun bt474 => (some (wrap64 (bt470.1 + 61616), wrap64 (bt474.1 + 61616), bt474.2.1, bt474.2.2.1, bt474.2.2.2)))) else (if bt466.1 = 1 then ((bitio_Reader_Unsigned.f k bt466.2.1 bt466.2.2.1 bt466.2.2.2 16).bind fun bt478 => (some (bt478.1, bt478.1, bt478.2.1, bt478.2.2.1, bt478.2.2.2))) else (if bt466.1 = 2 then ((bitio_Reader_Unsigned.f k bt466.2.1 bt466.2.2.1 bt466.2.2.2 8).bind fun bt482 => ((bitio_Reader_Unsigned.f k bt482.2.1 bt482.2.2.1 bt482.2.2.2 16).bind fun bt486 => (some (wrap64 (bt482.1 + 61440), bt486.1, bt486.2.1, bt486.2.2.1, bt486.2.2.2)))) else ((bitio_Reader_Unsigned.f k bt466.2.1 bt466.2.2.1 bt466.2.2.2 16).bind fun bt490 => ((bitio_Reader_Unsigned.f k bt490.2.1 bt490.2.2.1 bt490.2.2.2 16).bind fun bt494 => (some (bt490.1, bt494.1, bt494.2.1, bt494.2.2.1, bt494.2.2.2)))))))) = some (r1, r2, r3, r4, r5) := h
 clear h
 replace H := Option.bind_eq_some_iff.mp H
 obtain ⟨⟨t466, t467, t468, t469⟩, A20, H⟩ := H
 replace H : (if t466 = 3 then ((bitio_Reader_Unsigned.f k t467 t468 t469 4).bind fun bt470 => ((bitio_Reader_Unsigned.f k bt470.2.1 bt470.2.2.1 bt470.2.2.2 4).bind fun bt474 => (some (wrap64 (bt470.1 + 61616), wrap64 (bt474.1 + 61616), bt474.2.1, bt474.2.2.1, bt474.2.2.2)))) else (if t466 = 1 then ((bitio_Reader_Unsigned.f k t467 t468 t469 16).bind fun bt478 => (some (bt478.1, bt478.1, bt478.2.1, bt478.2.2.1, bt478.2.2.2))) else (if t466 = 2 then ((bitio_Reader_Unsigned.f k t467 t468 t469 8).bind fun bt482 => ((bitio_Reader_Unsigned.f k bt482.2.1 bt482.2.2.1 bt482.2.2.2 16).bind fun bt486 => (some (wrap64 (bt482.1 + 61440), bt486.1, bt486.2.1, bt486.2.2.1, bt486.2.2.2)))) else ((bitio_Reader_Unsigned.f k t467 t468 t469 16).bind fun bt490 => ((bitio_Reader_Unsigned.f k bt490.2.1 bt490.2.2.1 bt490.2.2.2 16).bind fun bt494 => (some (bt490.1, bt494.1, bt494.2.1, bt494.2.2.1, bt494.2.2.2))))))) = some (r1, r2, r3, r4, r5) := H
 have A2 := Aside0.mk A20
 clear A20
 by_cases c3 : t466 = 3
 ·
  rw [if_pos c3] at H
  have c3b0 : (t466 == 3) = true := beq_iff_eq.mpr c3
  have c3b1 : (t466 != 3) = false := bne_eq_false_iff_eq.mpr c3
  clear c3
  replace H := Option.bind_eq_some_iff.mp H
  obtain ⟨⟨t470, t471, t472, t473⟩, A40, H⟩ := H
  replace H : ((bitio_Reader_Unsigned.f k t471 t472 t473 4).bind fun bt474 => (some (wrap64 (t470 + 61616), wrap64 (bt474.1 + 61616), bt474.2.1, bt474.2.2.1, bt474.2.2.2))) = some (r1, r2, r3, r4, r5) := H
  have A4 := Aside0.mk A40
  clear A40
  replace H := Option.bind_eq_some_iff.mp H
  obtain ⟨⟨t474, t475, t476, t477⟩, A50, H⟩ := H
  replace H : (some (wrap64 (t470 + 61616), wrap64 (t474 + 61616), t475, t476, t477)) = some (r1, r2, r3, r4, r5) := H
  have A5 := Aside0.mk A50
  clear A50
  simp only [Option.some.injEq, Prod.mk.injEq] at H
  obtain ⟨rfl, rfl, rfl, rfl, rfl⟩ := H
  go_enter Try.func79, Try.ntmps79
  go_wp2_with (first | ((with_reducible refine gate_callee (f := 77) rfl ?_); refine goesL_ (some 5) rfl rfl Try.func77 (by kernel_rfl) rfl #[.pointer (some ⟨g, 0, none⟩), .int .i64 2] rfl am_ ?_; (with_reducible refine (bitio_Reader_Unsigned.calls k g s0_0 s0_1 s0_2 2 t466 t467 t468 t469 w0 _ ?side1 ?side2 A2.out).mono ?_); (case side1 => repeat (first | (with_reducible first | exact HI0.out | apply IsS105.alloc | apply IsS105.drewN | apply IsS105.drew | apply IsS105.set_0 | apply IsS105.set_1 | apply IsS105.set_2) | exact HI0.out)); (case side2 => repeat (first | (with_reducible first | exact HB.out | apply below_alloc | apply pw_below_drewN | apply below_drew1 | refine below_set ?_ (IsS105.ge HI0.out)) | exact HB.out)); rintro e w6 ⟨rfl, hi, hb, hk⟩; refine ⟨_, rfl, ?_⟩; have n0_ := Aside0.mk (KeepBut.trans (by repeat (first | (with_reducible first | exact HK.out | apply KeepBut.set_ | apply keep_drewN | apply keep_drew | apply keep_alloc) | exact HK.out)) hk (.inl rfl)); have n1_ := Aside0.mk (hb); have n2_ := Aside0.mk (hi); clear HK; clear HB; clear HI0; have HK := n0_; have HB := n1_; have HI0 := n2_; clear n0_ n1_ n2_; (try clear hb); (try clear hb2); (try clear hk); (try clear hi)) | ((with_reducible refine gate_callee (f := 77) rfl ?_); refine goesL_ (some 13) rfl rfl Try.func77 (by kernel_rfl) rfl #[.pointer (some ⟨g, 0, none⟩), .int .i64 4] rfl am_ ?_; (with_reducible refine (bitio_Reader_Unsigned.calls k g t467 t468 t469 4 t470 t471 t472 t473 w0 _ ?side1 ?side2 A4.out).mono ?_); (case side1 => repeat (first | (with_reducible first | exact HI0.out | apply IsS105.alloc | apply IsS105.drewN | apply IsS105.drew | apply IsS105.set_0 | apply IsS105.set_1 | apply IsS105.set_2) | exact HI0.out)); (case side2 => repeat (first | (with_reducible first | exact HB.out | apply below_alloc | apply pw_below_drewN | apply below_drew1 | refine below_set ?_ (IsS105.ge HI0.out)) | exact HB.out)); rintro e w7 ⟨rfl, hi, hb, hk⟩; refine ⟨_, rfl, ?_⟩; have n0_ := Aside0.mk (KeepBut.trans (by repeat (first | (with_reducible first | exact HK.out | apply KeepBut.set_ | apply keep_drewN | apply keep_drew | apply keep_alloc) | exact HK.out)) hk (.inl rfl)); have n1_ := Aside0.mk (hb); have n2_ := Aside0.mk (hi); clear HK; clear HB; clear HI0; have HK := n0_; have HB := n1_; have HI0 := n2_; clear n0_ n1_ n2_; (try clear hb); (try clear hb2); (try clear hk); (try clear hi)) | ((with_reducible refine gate_callee (f := 77) rfl ?_); refine goesL_ (some 16) rfl rfl Try.func77 (by kernel_rfl) rfl #[.pointer (some ⟨g, 0, none⟩), .int .i64 4] rfl am_ ?_; (with_reducible refine (bitio_Reader_Unsigned.calls k g t471 t472 t473 4 t474 t475 t476 t477 w0 _ ?side1 ?side2 A5.out).mono ?_); (case side1 => repeat (first | (with_reducible first | exact HI0.out | apply IsS105.alloc | apply IsS105.drewN | apply IsS105.drew | apply IsS105.set_0 | apply IsS105.set_1 | apply IsS105.set_2) | exact HI0.out)); (case side2 => repeat (first | (with_reducible first | exact HB.out | apply below_alloc | apply pw_below_drewN | apply below_drew1 | refine below_set ?_ (IsS105.ge HI0.out)) | exact HB.out)); rintro e w8 ⟨rfl, hi, hb, hk⟩; refine ⟨_, rfl, ?_⟩; have n0_ := Aside0.mk (KeepBut.trans (by repeat (first | (with_reducible first | exact HK.out | apply KeepBut.set_ | apply keep_drewN | apply keep_drew | apply keep_alloc) | exact HK.out)) hk (.inl rfl)); have n1_ := Aside0.mk (hb); have n2_ := Aside0.mk (hi); clear HK; clear HB; clear HI0; have HK := n0_; have HB := n1_; have HI0 := n2_; clear n0_ n1_ n2_; (try clear hb); (try clear hb2); (try clear hk); (try clear hi)))
  go_ret2
  exact ⟨er_, by repeat (first | (with_reducible first | exact HI0.out | apply IsS105.alloc | apply IsS105.drewN | apply IsS105.drew | apply IsS105.set_0 | apply IsS105.set_1 | apply IsS105.set_2) | exact HI0.out), by repeat (first | (with_reducible first | exact HB.out | apply below_alloc | apply pw_below_drewN | apply below_drew1 | refine below_set ?_ (IsS105.ge HI0.out)) | exact HB.out), by repeat (first | (with_reducible first | exact HK.out | apply KeepBut.set_ | apply keep_drewN | apply keep_drew | apply keep_alloc) | exact HK.out)⟩
 ·
  rw [if_neg c3] at H
  have c3b0 : (t466 == 3) = false := beq_eq_false_iff_ne.mpr c3
  have c3b1 : (t466 != 3) = true := bne_iff_ne.mpr c3
  by_cases c9 : t466 = 1
  ·
   rw [if_pos c9] at H
   have c9b0 : (t466 == 1) = true := beq_iff_eq.mpr c9
   have c9b1 : (t466 != 1) = false := bne_eq_false_iff_eq.mpr c9
   clear c9
   replace H := Option.bind_eq_some_iff.mp H
   obtain ⟨⟨t478, t479, t480, t481⟩, A100, H⟩ := H
   replace H : (some (t478, t478, t479, t480, t481)) = some (r1, r2, r3, r4, r5) := H
   have A10 := Aside0.mk A100
   clear A100
   simp only [Option.some.injEq, Prod.mk.injEq] at H
   obtain ⟨rfl, rfl, rfl, rfl, rfl⟩ := H
   go_enter Try.func79, Try.ntmps79
   go_wp2_with (first | ((with_reducible refine gate_callee (f := 77) rfl ?_); refine goesL_ (some 5) rfl rfl Try.func77 (by kernel_rfl) rfl #[.pointer (some ⟨g, 0, none⟩), .int .i64 2] rfl am_ ?_; (with_reducible refine (bitio_Reader_Unsigned.calls k g s0_0 s0_1 s0_2 2 t466 t467 t468 t469 w0 _ ?side1 ?side2 A2.out).mono ?_); (case side1 => repeat (first | (with_reducible first | exact HI0.out | apply IsS105.alloc | apply IsS105.drewN | apply IsS105.drew | apply IsS105.set_0 | apply IsS105.set_1 | apply IsS105.set_2) | exact HI0.out)); (case side2 => repeat (first | (with_reducible first | exact HB.out | apply below_alloc | apply pw_below_drewN | apply below_drew1 | refine below_set ?_ (IsS105.ge HI0.out)) | exact HB.out)); rintro e w11 ⟨rfl, hi, hb, hk⟩; refine ⟨_, rfl, ?_⟩; have n0_ := Aside0.mk (KeepBut.trans (by repeat (first | (with_reducible first | exact HK.out | apply KeepBut.set_ | apply keep_drewN | apply keep_drew | apply keep_alloc) | exact HK.out)) hk (.inl rfl)); have n1_ := Aside0.mk (hb); have n2_ := Aside0.mk (hi); clear HK; clear HB; clear HI0; have HK := n0_; have HB := n1_; have HI0 := n2_; clear n0_ n1_ n2_; (try clear hb); (try clear hb2); (try clear hk); (try clear hi)) | ((with_reducible refine gate_callee (f := 77) rfl ?_); refine goesL_ (some 21) rfl rfl Try.func77 (by kernel_rfl) rfl #[.pointer (some ⟨g, 0, none⟩), .int .i64 16] rfl am_ ?_; (with_reducible refine (bitio_Reader_Unsigned.calls k g t467 t468 t469 16 t478 t479 t480 t481 w0 _ ?side1 ?side2 A10.out).mono ?_); (case side1 => repeat (first | (with_reducible first | exact HI0.out | apply IsS105.alloc | apply IsS105.drewN | apply IsS105.drew | apply IsS105.set_0 | apply IsS105.set_1 | apply IsS105.set_2) | exact HI0.out)); (case side2 => repeat (first | (with_reducible first | exact HB.out | apply below_alloc | apply pw_below_drewN | apply below_drew1 | refine below_set ?_ (IsS105.ge HI0.out)) | exact HB.out)); rintro e w12 ⟨rfl, hi, hb, hk⟩; refine ⟨_, rfl, ?_⟩; have n0_ := Aside0.mk (KeepBut.trans (by repeat (first | (with_reducible first | exact HK.out | apply KeepBut.set_ | apply keep_drewN | apply keep_drew | apply keep_alloc) | exact HK.out)) hk (.inl rfl)); have n1_ := Aside0.mk (hb); have n2_ := Aside0.mk (hi); clear HK; clear HB; clear HI0; have HK := n0_; have HB := n1_; have HI0 := n2_; clear n0_ n1_ n2_; (try clear hb); (try clear hb2); (try clear hk); (try clear hi)))
   go_ret2
   exact ⟨er_, by repeat (first | (with_reducible first | exact HI0.out | apply IsS105.alloc | apply IsS105.drewN | apply IsS105.drew | apply IsS105.set_0 | apply IsS105.set_1 | apply IsS105.set_2) | exact HI0.out), by repeat (first | (with_reducible first | exact HB.out | apply below_alloc | apply pw_below_drewN | apply below_drew1 | refine below_set ?_ (IsS105.ge HI0.out)) | exact HB.out), by repeat (first | (with_reducible first | exact HK.out | apply KeepBut.set_ | apply keep_drewN | apply keep_drew | apply keep_alloc) | exact HK.out)⟩
  ·
   rw [if_neg c9] at H
   have c9b0 : (t466 == 1) = false := beq_eq_false_iff_ne.mpr c9
   have c9b1 : (t466 != 1) = true := bne_iff_ne.mpr c9
   by_cases c13 : t466 = 2
   ·
    rw [if_pos c13] at H
    have c13b0 : (t466 == 2) = true := beq_iff_eq.mpr c13
    have c13b1 : (t466 != 2) = false := bne_eq_false_iff_eq.mpr c13
    clear c13
    replace H := Option.bind_eq_some_iff.mp H
    obtain ⟨⟨t482, t483, t484, t485⟩, A140, H⟩ := H
    replace H : ((bitio_Reader_Unsigned.f k t483 t484 t485 16).bind fun bt486 => (some (wrap64 (t482 + 61440), bt486.1, bt486.2.1, bt486.2.2.1, bt486.2.2.2))) = some (r1, r2, r3, r4, r5) := H
    have A14 := Aside0.mk A140
    clear A140
    replace H := Option.bind_eq_some_iff.mp H
    obtain ⟨⟨t486, t487, t488, t489⟩, A150, H⟩ := H
    replace H : (some (wrap64 (t482 + 61440), t486, t487, t488, t489)) = some (r1, r2, r3, r4, r5) := H
    have A15 := Aside0.mk A150
    clear A150
    simp only [Option.some.injEq, Prod.mk.injEq] at H
    obtain ⟨rfl, rfl, rfl, rfl, rfl⟩ := H
    go_enter Try.func79, Try.ntmps79
    go_wp2_with (first | ((with_reducible refine gate_callee (f := 77) rfl ?_); refine goesL_ (some 5) rfl rfl Try.func77 (by kernel_rfl) rfl #[.pointer (some ⟨g, 0, none⟩), .int .i64 2] rfl am_ ?_; (with_reducible refine (bitio_Reader_Unsigned.calls k g s0_0 s0_1 s0_2 2 t466 t467 t468 t469 w0 _ ?side1 ?side2 A2.out).mono ?_); (case side1 => repeat (first | (with_reducible first | exact HI0.out | apply IsS105.alloc | apply IsS105.drewN | apply IsS105.drew | apply IsS105.set_0 | apply IsS105.set_1 | apply IsS105.set_2) | exact HI0.out)); (case side2 => repeat (first | (with_reducible first | exact HB.out | apply below_alloc | apply pw_below_drewN | apply below_drew1 | refine below_set ?_ (IsS105.ge HI0.out)) | exact HB.out)); rintro e w16 ⟨rfl, hi, hb, hk⟩; refine ⟨_, rfl, ?_⟩; have n0_ := Aside0.mk (KeepBut.trans (by repeat (first | (with_reducible first | exact HK.out | apply KeepBut.set_ | apply keep_drewN | apply keep_drew | apply keep_alloc) | exact HK.out)) hk (.inl rfl)); have n1_ := Aside0.mk (hb); have n2_ := Aside0.mk (hi); clear HK; clear HB; clear HI0; have HK := n0_; have HB := n1_; have HI0 := n2_; clear n0_ n1_ n2_; (try clear hb); (try clear hb2); (try clear hk); (try clear hi)) | ((with_reducible refine gate_callee (f := 77) rfl ?_); refine goesL_ (some 26) rfl rfl Try.func77 (by kernel_rfl) rfl #[.pointer (some ⟨g, 0, none⟩), .int .i64 8] rfl am_ ?_; (with_reducible refine (bitio_Reader_Unsigned.calls k g t467 t468 t469 8 t482 t483 t484 t485 w0 _ ?side1 ?side2 A14.out).mono ?_); (case side1 => repeat (first | (with_reducible first | exact HI0.out | apply IsS105.alloc | apply IsS105.drewN | apply IsS105.drew | apply IsS105.set_0 | apply IsS105.set_1 | apply IsS105.set_2) | exact HI0.out)); (case side2 => repeat (first | (with_reducible first | exact HB.out | apply below_alloc | apply pw_below_drewN | apply below_drew1 | refine below_set ?_ (IsS105.ge HI0.out)) | exact HB.out)); rintro e w17 ⟨rfl, hi, hb, hk⟩; refine ⟨_, rfl, ?_⟩; have n0_ := Aside0.mk (KeepBut.trans (by repeat (first | (with_reducible first | exact HK.out | apply KeepBut.set_ | apply keep_drewN | apply keep_drew | apply keep_alloc) | exact HK.out)) hk (.inl rfl)); have n1_ := Aside0.mk (hb); have n2_ := Aside0.mk (hi); clear HK; clear HB; clear HI0; have HK := n0_; have HB := n1_; have HI0 := n2_; clear n0_ n1_ n2_; (try clear hb); (try clear hb2); (try clear hk); (try clear hi)) | ((with_reducible refine gate_callee (f := 77) rfl ?_); refine goesL_ (some 29) rfl rfl Try.func77 (by kernel_rfl) rfl #[.pointer (some ⟨g, 0, none⟩), .int .i64 16] rfl am_ ?_; (with_reducible refine (bitio_Reader_Unsigned.calls k g t483 t484 t485 16 t486 t487 t488 t489 w0 _ ?side1 ?side2 A15.out).mono ?_); (case side1 => repeat (first | (with_reducible first | exact HI0.out | apply IsS105.alloc | apply IsS105.drewN | apply IsS105.drew | apply IsS105.set_0 | apply IsS105.set_1 | apply IsS105.set_2) | exact HI0.out)); (case side2 => repeat (first | (with_reducible first | exact HB.out | apply below_alloc | apply pw_below_drewN | apply below_drew1 | refine below_set ?_ (IsS105.ge HI0.out)) | exact HB.out)); rintro e w18 ⟨rfl, hi, hb, hk⟩; refine ⟨_, rfl, ?_⟩; have n0_ := Aside0.mk (KeepBut.trans (by repeat (first | (with_reducible first | exact HK.out | apply KeepBut.set_ | apply keep_drewN | apply keep_drew | apply keep_alloc) | exact HK.out)) hk (.inl rfl)); have n1_ := Aside0.mk (hb); have n2_ := Aside0.mk (hi); clear HK; clear HB; clear HI0; have HK := n0_; have HB := n1_; have HI0 := n2_; clear n0_ n1_ n2_; (try clear hb); (try clear hb2); (try clear hk); (try clear hi)))
    go_ret2
    exact ⟨er_, by repeat (first | (with_reducible first | exact HI0.out | apply IsS105.alloc | apply IsS105.drewN | apply IsS105.drew | apply IsS105.set_0 | apply IsS105.set_1 | apply IsS105.set_2) | exact HI0.out), by repeat (first | (with_reducible first | exact HB.out | apply below_alloc | apply pw_below_drewN | apply below_drew1 | refine below_set ?_ (IsS105.ge HI0.out)) | exact HB.out), by repeat (first | (with_reducible first | exact HK.out | apply KeepBut.set_ | apply keep_drewN | apply keep_drew | apply keep_alloc) | exact HK.out)⟩
   ·
    rw [if_neg c13] at H
    have c13b0 : (t466 == 2) = false := beq_eq_false_iff_ne.mpr c13
    have c13b1 : (t466 != 2) = true := bne_iff_ne.mpr c13
    replace H := Option.bind_eq_some_iff.mp H
    obtain ⟨⟨t490, t491, t492, t493⟩, A190, H⟩ := H
    replace H : ((bitio_Reader_Unsigned.f k t491 t492 t493 16).bind fun bt494 => (some (t490, bt494.1, bt494.2.1, bt494.2.2.1, bt494.2.2.2))) = some (r1, r2, r3, r4, r5) := H
    have A19 := Aside0.mk A190
    clear A190
    replace H := Option.bind_eq_some_iff.mp H
    obtain ⟨⟨t494, t495, t496, t497⟩, A200, H⟩ := H
    replace H : (some (t490, t494, t495, t496, t497)) = some (r1, r2, r3, r4, r5) := H
    have A20 := Aside0.mk A200
    clear A200
    simp only [Option.some.injEq, Prod.mk.injEq] at H
    obtain ⟨rfl, rfl, rfl, rfl, rfl⟩ := H
    go_enter Try.func79, Try.ntmps79
    go_wp2_with (first | ((with_reducible refine gate_callee (f := 77) rfl ?_); refine goesL_ (some 5) rfl rfl Try.func77 (by kernel_rfl) rfl #[.pointer (some ⟨g, 0, none⟩), .int .i64 2] rfl am_ ?_; (with_reducible refine (bitio_Reader_Unsigned.calls k g s0_0 s0_1 s0_2 2 t466 t467 t468 t469 w0 _ ?side1 ?side2 A2.out).mono ?_); (case side1 => repeat (first | (with_reducible first | exact HI0.out | apply IsS105.alloc | apply IsS105.drewN | apply IsS105.drew | apply IsS105.set_0 | apply IsS105.set_1 | apply IsS105.set_2) | exact HI0.out)); (case side2 => repeat (first | (with_reducible first | exact HB.out | apply below_alloc | apply pw_below_drewN | apply below_drew1 | refine below_set ?_ (IsS105.ge HI0.out)) | exact HB.out)); rintro e w21 ⟨rfl, hi, hb, hk⟩; refine ⟨_, rfl, ?_⟩; have n0_ := Aside0.mk (KeepBut.trans (by repeat (first | (with_reducible first | exact HK.out | apply KeepBut.set_ | apply keep_drewN | apply keep_drew | apply keep_alloc) | exact HK.out)) hk (.inl rfl)); have n1_ := Aside0.mk (hb); have n2_ := Aside0.mk (hi); clear HK; clear HB; clear HI0; have HK := n0_; have HB := n1_; have HI0 := n2_; clear n0_ n1_ n2_; (try clear hb); (try clear hb2); (try clear hk); (try clear hi)) | ((with_reducible refine gate_callee (f := 77) rfl ?_); refine goesL_ (some 7) rfl rfl Try.func77 (by kernel_rfl) rfl #[.pointer (some ⟨g, 0, none⟩), .int .i64 16] rfl am_ ?_; (with_reducible refine (bitio_Reader_Unsigned.calls k g t467 t468 t469 16 t490 t491 t492 t493 w0 _ ?side1 ?side2 A19.out).mono ?_); (case side1 => repeat (first | (with_reducible first | exact HI0.out | apply IsS105.alloc | apply IsS105.drewN | apply IsS105.drew | apply IsS105.set_0 | apply IsS105.set_1 | apply IsS105.set_2) | exact HI0.out)); (case side2 => repeat (first | (with_reducible first | exact HB.out | apply below_alloc | apply pw_below_drewN | apply below_drew1 | refine below_set ?_ (IsS105.ge HI0.out)) | exact HB.out)); rintro e w22 ⟨rfl, hi, hb, hk⟩; refine ⟨_, rfl, ?_⟩; have n0_ := Aside0.mk (KeepBut.trans (by repeat (first | (with_reducible first | exact HK.out | apply KeepBut.set_ | apply keep_drewN | apply keep_drew | apply keep_alloc) | exact HK.out)) hk (.inl rfl)); have n1_ := Aside0.mk (hb); have n2_ := Aside0.mk (hi); clear HK; clear HB; clear HI0; have HK := n0_; have HB := n1_; have HI0 := n2_; clear n0_ n1_ n2_; (try clear hb); (try clear hb2); (try clear hk); (try clear hi)) | ((with_reducible refine gate_callee (f := 77) rfl ?_); refine goesL_ (some 9) rfl rfl Try.func77 (by kernel_rfl) rfl #[.pointer (some ⟨g, 0, none⟩), .int .i64 16] rfl am_ ?_; (with_reducible refine (bitio_Reader_Unsigned.calls k g t491 t492 t493 16 t494 t495 t496 t497 w0 _ ?side1 ?side2 A20.out).mono ?_); (case side1 => repeat (first | (with_reducible first | exact HI0.out | apply IsS105.alloc | apply IsS105.drewN | apply IsS105.drew | apply IsS105.set_0 | apply IsS105.set_1 | apply IsS105.set_2) | exact HI0.out)); (case side2 => repeat (first | (with_reducible first | exact HB.out | apply below_alloc | apply pw_below_drewN | apply below_drew1 | refine below_set ?_ (IsS105.ge HI0.out)) | exact HB.out)); rintro e w23 ⟨rfl, hi, hb, hk⟩; refine ⟨_, rfl, ?_⟩; have n0_ := Aside0.mk (KeepBut.trans (by repeat (first | (with_reducible first | exact HK.out | apply KeepBut.set_ | apply keep_drewN | apply keep_drew | apply keep_alloc) | exact HK.out)) hk (.inl rfl)); have n1_ := Aside0.mk (hb); have n2_ := Aside0.mk (hi); clear HK; clear HB; clear HI0; have HK := n0_; have HB := n1_; have HI0 := n2_; clear n0_ n1_ n2_; (try clear hb); (try clear hb2); (try clear hk); (try clear hi)))
    go_ret2
    exact ⟨er_, by repeat (first | (with_reducible first | exact HI0.out | apply IsS105.alloc | apply IsS105.drewN | apply IsS105.drew | apply IsS105.set_0 | apply IsS105.set_1 | apply IsS105.set_2) | exact HI0.out), by repeat (first | (with_reducible first | exact HB.out | apply below_alloc | apply pw_below_drewN | apply below_drew1 | refine below_set ?_ (IsS105.ge HI0.out)) | exact HB.out), by repeat (first | (with_reducible first | exact HK.out | apply KeepBut.set_ | apply keep_drewN | apply keep_drew | apply keep_alloc) | exact HK.out)⟩

end Go.Proofs.Ytmbbijhppgkdfaa.P14
