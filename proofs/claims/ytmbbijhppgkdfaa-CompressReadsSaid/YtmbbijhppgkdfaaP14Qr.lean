-- Written by a program of this session (wip/tools) over the kit's print; Lean checks it.
import Derived.Test.YtmbbijhppgkdfaaP140
import Derived.Test.YtmbbijhppgkdfaaP14Q0
namespace Go.Proofs.Ytmbbijhppgkdfaa.P14
open Go.RowKit Go.Proofs.YtmbbijhppgkdfaaW.PrintWords Go.Proofs.YtmbbijhppgkdfaaW.PrintLast Go.Proofs.YtmbbijhppgkdfaaW.PrintMore
attribute [local go_sem] max2_int min2_int max_two min_two max_three min_three max_four min_four   -- for this text's walks alone
set_option linter.unusedVariables false
set_option linter.unusedSimpArgs false

/-! ### hopmeshref14_read: function 84 -/
mutual
def hopmeshref14_read.j0 : Nat → ByteArray → ByteArray → Int → Int → Option (ByteArray × ByteArray × Int × Int)
 | 0, _, _, _, _ => none
 | k + 1, x5, x1000, x1001, x1002 => hopmeshref14_read.l0 k x5 x1000 x1001 x1002
def hopmeshref14_read.l0 : Nat → ByteArray → ByteArray → Int → Int → Option (ByteArray × ByteArray × Int × Int)
 | 0, _, _, _, _ => none
 | k + 1, x5, x1000, x1001, x1002 => if (x5.size : Int) < 4 then ((hopmeshref02_Reader_Err.f x1000 x1001 x1002).bind fun bt243 => (if bt243.1 = 0 then ((hopmeshref02_Reader_Unsigned.f k bt243.2.1 bt243.2.2.1 bt243.2.2.2 8).bind fun bt247 => ((some (([(bt247.1) % 256] : List Int) : List Int)).bind fun y251 => (if x5.size + (strOfNums y251).size ≤ 9223372036854775807 then (hopmeshref14_read.l0 k (x5 ++ (strOfNums y251)) bt247.2.1 bt247.2.2.1 bt247.2.2.2) else (none)))) else (some (x5, bt243.2.1, bt243.2.2.1, bt243.2.2.2)))) else (some (x5, x1000, x1001, x1002))
end
def hopmeshref14_read.f (k : Nat) (s0_0 : ByteArray) (s0_1 : Int) (s0_2 : Int) (l1 : List (S26)) : Option (ByteArray × ByteArray × Int × Int) := (hopmeshref02_Reader_Flag.f k s0_0 s0_1 s0_2).bind fun bt230 => (if bt230.1 = true then ((hopmeshref02_Reader_Unsigned.f k bt230.2.1 bt230.2.2.1 bt230.2.2.2 3).bind fun bt234 => (if bt234.1 ≥ (l1.length : Int) then ((hopmeshref02_Reader_Unsigned.f k bt234.2.1 bt234.2.2.1 bt234.2.2.2 0).bind fun bt238 => (some ((⟨#[]⟩ : ByteArray), bt238.2.1, bt238.2.2.1, bt238.2.2.2))) else (if 0 ≤ bt234.1 then (if bt234.1 < (l1.length : Int) then (hopmeshref14_read.j0 k ((rd_T26 l1 bt234.1).f0) bt234.2.1 bt234.2.2.1 bt234.2.2.2) else (none)) else (none)))) else (hopmeshref14_read.j0 k (⟨#[]⟩ : ByteArray) bt230.2.1 bt230.2.2.1 bt230.2.2.2))
theorem hopmeshref14_read.mono_l : ∀ k, (∀ y0 y1 y2 y3, LeO (hopmeshref14_read.j0 k y0 y1 y2 y3) (hopmeshref14_read.j0 (k + 1) y0 y1 y2 y3)) ∧ (∀ y0 y1 y2 y3, LeO (hopmeshref14_read.l0 k y0 y1 y2 y3) (hopmeshref14_read.l0 (k + 1) y0 y1 y2 y3))
 | 0 => ⟨fun _ _ _ _ r h => by simp [hopmeshref14_read.j0] at h, fun _ _ _ _ r h => by simp [hopmeshref14_read.l0] at h⟩
 | k + 1 => by
  obtain ⟨ih0, ih1⟩ := hopmeshref14_read.mono_l k
  refine ⟨?_, ?_⟩
  ·
   intro y0 y1 y2 y3
   unfold hopmeshref14_read.j0
   repeat' first
   | (with_reducible exact ih0 _ _ _ _)
   | (with_reducible exact ih1 _ _ _ _)
   | (with_reducible exact hopmeshref02_Reader_Flag.mono _ _ _ _)
   | (with_reducible exact hopmeshref02_Reader_Unsigned.mono _ _ _ _ _)
   | (with_reducible exact LeO.refl _)
   | (with_reducible exact LeO.none _)
   | (with_reducible refine LeO.ite ?_ ?_)
   | (with_reducible refine LeO.bind ?_ (fun _ => ?_))
   | exact ih0 _ _ _ _
   | exact ih1 _ _ _ _
   | exact hopmeshref02_Reader_Flag.mono _ _ _ _
   | exact hopmeshref02_Reader_Unsigned.mono _ _ _ _ _
   | exact LeO.none _
   | refine LeO.ite ?_ ?_
   | refine LeO.bind ?_ (fun _ => ?_)
  ·
   intro y0 y1 y2 y3
   unfold hopmeshref14_read.l0
   repeat' first
   | (with_reducible exact ih0 _ _ _ _)
   | (with_reducible exact ih1 _ _ _ _)
   | (with_reducible exact hopmeshref02_Reader_Flag.mono _ _ _ _)
   | (with_reducible exact hopmeshref02_Reader_Unsigned.mono _ _ _ _ _)
   | (with_reducible exact LeO.refl _)
   | (with_reducible exact LeO.none _)
   | (with_reducible refine LeO.ite ?_ ?_)
   | (with_reducible refine LeO.bind ?_ (fun _ => ?_))
   | exact ih0 _ _ _ _
   | exact ih1 _ _ _ _
   | exact hopmeshref02_Reader_Flag.mono _ _ _ _
   | exact hopmeshref02_Reader_Unsigned.mono _ _ _ _ _
   | exact LeO.none _
   | refine LeO.ite ?_ ?_
   | refine LeO.bind ?_ (fun _ => ?_)
theorem hopmeshref14_read.mono : ∀ a0 a1 a2 a3 k, LeO (hopmeshref14_read.f k a0 a1 a2 a3) (hopmeshref14_read.f (k + 1) a0 a1 a2 a3) := by
 intro a0 a1 a2 a3 k
 obtain ⟨ih0, ih1⟩ := hopmeshref14_read.mono_l k
 unfold hopmeshref14_read.f
 repeat' first
   | (with_reducible exact ih0 _ _ _ _)
   | (with_reducible exact ih1 _ _ _ _)
   | (with_reducible exact hopmeshref02_Reader_Flag.mono _ _ _ _)
   | (with_reducible exact hopmeshref02_Reader_Unsigned.mono _ _ _ _ _)
   | (with_reducible exact LeO.refl _)
   | (with_reducible exact LeO.none _)
   | (with_reducible refine LeO.ite ?_ ?_)
   | (with_reducible refine LeO.bind ?_ (fun _ => ?_))
   | exact ih0 _ _ _ _
   | exact ih1 _ _ _ _
   | exact hopmeshref02_Reader_Flag.mono _ _ _ _
   | exact hopmeshref02_Reader_Unsigned.mono _ _ _ _ _
   | exact LeO.none _
   | refine LeO.ite ?_ ?_
   | refine LeO.bind ?_ (fun _ => ?_)
set_option maxHeartbeats 8000000 in
set_option maxRecDepth 100000 in
theorem hopmeshref14_read.calls (k : Nat) (g : Nat) (s0_0 : ByteArray) (s0_1 : Int) (s0_2 : Int) (A1 : Option Addr) (c1 : Nat) (l1 : List (S26)) (r1 : ByteArray) (r2 : ByteArray) (r3 : Int) (r4 : Int) (w0 w : World) (hI : IsS107 w0 w g s0_0 s0_1 s0_2) (hB : Below w0.heap.size w0 w) (hr1 : ∀ W_, KeepBut w W_ g none → Kd.C k26 W_ A1 l1.length l1) (hc1 : l1.length ≤ c1) (h : hopmeshref14_read.f k s0_0 s0_1 s0_2 l1 = some (r1, r2, r3, r4)) :
  Calls Try.prog 84 #[.pointer (some ⟨g, 0, none⟩), .slice A1 l1.length c1] w fun e w' => e = .returned (.string r1) ∧ IsS107 w0 w' g r2 r3 r4 ∧ Below w0.heap.size w0 w' ∧ KeepBut w w' g none := by
 have HR1 := Aside0.mk hr1
 have HC1 := Aside0.mk hc1
 clear hr1 hc1
 have HI0 := Aside0.mk hI
 have HK := Aside0.mk (KeepBut.refl w g none)
 have HL := Aside0.mk hB.size
 clear hI
 have HW0 := Aside0.mk hB.size
 have HB := Aside0.mk hB
 clear hB
 have H : ((hopmeshref02_Reader_Flag.f k s0_0 s0_1 s0_2).bind fun bt230 => (if bt230.1 = true then ((hopmeshref02_Reader_Unsigned.f k bt230.2.1 bt230.2.2.1 bt230.2.2.2 3).bind fun bt234 => (if bt234.1 ≥ (l1.length : Int) then ((hopmeshref02_Reader_Unsigned.f k bt234.2.1 bt234.2.2.1 bt234.2.2.2 0).bind fun bt238 => (some ((⟨#[]⟩ : ByteArray), bt238.2.1, bt238.2.2.1, bt238.2.2.2))) else (if 0 ≤ bt234.1 then (if bt234.1 < (l1.length : Int) then (hopmeshref14_read.j0 k ((rd_T26 l1 bt234.1).f0) bt234.2.1 bt234.2.2.1 bt234.2.2.2) else (none)) else (none)))) else (hopmeshref14_read.j0 k (⟨#[]⟩ : ByteArray) bt230.2.1 bt230.2.2.1 bt230.2.2.2))) = some (r1, r2, r3, r4) := h
 clear h
 replace H := Option.bind_eq_some_iff.mp H
 obtain ⟨⟨t230, t231, t232, t233⟩, A30, H⟩ := H
 replace H : (if t230 = true then ((hopmeshref02_Reader_Unsigned.f k t231 t232 t233 3).bind fun bt234 => (if bt234.1 ≥ (l1.length : Int) then ((hopmeshref02_Reader_Unsigned.f k bt234.2.1 bt234.2.2.1 bt234.2.2.2 0).bind fun bt238 => (some ((⟨#[]⟩ : ByteArray), bt238.2.1, bt238.2.2.1, bt238.2.2.2))) else (if 0 ≤ bt234.1 then (if bt234.1 < (l1.length : Int) then (hopmeshref14_read.j0 k ((rd_T26 l1 bt234.1).f0) bt234.2.1 bt234.2.2.1 bt234.2.2.2) else (none)) else (none)))) else (hopmeshref14_read.j0 k (⟨#[]⟩ : ByteArray) t231 t232 t233)) = some (r1, r2, r3, r4) := H
 have A3 := Aside0.mk A30
 clear A30
 have HC4 := Aside0.mk H
 clear H
 go_enter Try.func84, Try.ntmps84
 go_upto_if 8 with (first | ((with_reducible refine gate_callee (f := 82) rfl ?_); refine goesL_ (some 8) rfl rfl Try.func82 (by kernel_rfl) rfl #[.pointer (some ⟨g, 0, none⟩)] rfl am_ ?_; (with_reducible refine (hopmeshref02_Reader_Flag.calls k g s0_0 s0_1 s0_2 t230 t231 t232 t233 w0 _ ?side1 ?side2 A3.out).mono ?_); (case side1 => repeat (first | (with_reducible first | exact HI0.out | apply IsS107.alloc | apply IsS107.drewN | apply IsS107.drew | apply IsS107.set_0 | apply IsS107.set_1 | apply IsS107.set_2) | exact HI0.out)); (case side2 => repeat (first | (with_reducible first | exact HB.out | apply below_alloc | apply pw_below_drewN | apply below_drew1 | refine below_set ?_ (IsS107.ge HI0.out)) | exact HB.out)); rintro e w5 ⟨rfl, hi, hb, hk⟩; refine ⟨_, rfl, ?_⟩; have n0_ := Aside0.mk (KeepBut.trans (by repeat (first | (with_reducible first | exact HK.out | apply KeepBut.set_ | apply keep_drewN | apply keep_drew | apply keep_alloc) | exact HK.out)) hk (.inl rfl)); have n1_ := Aside0.mk (hb); have n2_ := Aside0.mk (hi); clear HK; clear HB; clear HI0; have HK := n0_; have HB := n1_; have HI0 := n2_; clear n0_ n1_ n2_; (try clear hb); (try clear hb2); (try clear hk); (try clear hi)))
 (try simp only [Act.put, List.setIfInBounds_toArray, List.set_cons_zero, List.set_cons_succ])
 go_cut [5] (fun v5 wc => ∃ (kq : Nat) (x5_3 : ByteArray) (x1000_3 : ByteArray) (x1001_3 : Int) (x1002_3 : Int), v5 = .string x5_3 ∧ Aside0 (hopmeshref14_read.j0 kq x5_3 x1000_3 x1001_3 x1002_3 = some (r1, r2, r3, r4)) ∧ Aside0 (kq ≤ k) ∧ Aside0 (IsS107 w0 wc g x1000_3 x1001_3 x1002_3) ∧ Aside0 (KeepBut w wc g none) ∧ Aside0 (Below w0.heap.size w0 wc))
 case first =>
  have H := HC4.out
  clear HC4
  by_cases c6 : t230 = true
  ·
   subst c6
   have H1 : ((hopmeshref02_Reader_Unsigned.f k t231 t232 t233 3).bind fun bt234 => (if bt234.1 ≥ (l1.length : Int) then ((hopmeshref02_Reader_Unsigned.f k bt234.2.1 bt234.2.2.1 bt234.2.2.2 0).bind fun bt238 => (some ((⟨#[]⟩ : ByteArray), bt238.2.1, bt238.2.2.1, bt238.2.2.2))) else (if 0 ≤ bt234.1 then (if bt234.1 < (l1.length : Int) then (hopmeshref14_read.j0 k ((rd_T26 l1 bt234.1).f0) bt234.2.1 bt234.2.2.1 bt234.2.2.2) else (none)) else (none)))) = some (r1, r2, r3, r4) := by rw [if_pos rfl] at H; exact H
   clear H
   have H := H1
   clear H1
   replace H := Option.bind_eq_some_iff.mp H
   obtain ⟨⟨t234, t235, t236, t237⟩, A70, H⟩ := H
   replace H : (if t234 ≥ (l1.length : Int) then ((hopmeshref02_Reader_Unsigned.f k t235 t236 t237 0).bind fun bt238 => (some ((⟨#[]⟩ : ByteArray), bt238.2.1, bt238.2.2.1, bt238.2.2.2))) else (if 0 ≤ t234 then (if t234 < (l1.length : Int) then (hopmeshref14_read.j0 k ((rd_T26 l1 t234).f0) t235 t236 t237) else (none)) else (none))) = some (r1, r2, r3, r4) := H
   have A7 := Aside0.mk A70
   clear A70
   by_cases c8 : t234 ≥ (l1.length : Int)
   ·
    rw [if_pos c8] at H
    have c8b0 : decide ((l1.length : Int) ≤ t234) = true := decide_eq_true c8
    clear c8
    (first | rw [c8b0] | (simp only [i64_w, i32_w]; rw [c8b0]) | skip)
    replace H := Option.bind_eq_some_iff.mp H
    obtain ⟨⟨t238, t239, t240, t241⟩, A90, H⟩ := H
    replace H : (some ((⟨#[]⟩ : ByteArray), t239, t240, t241)) = some (r1, r2, r3, r4) := H
    have A9 := Aside0.mk A90
    clear A90
    simp only [Option.some.injEq, Prod.mk.injEq] at H
    obtain ⟨rfl, rfl, rfl, rfl⟩ := H
    go_wp2_with (first | ((with_reducible refine gate_callee (f := 83) rfl ?_); refine goesL_ (some 10) rfl rfl Try.func83 (by kernel_rfl) rfl #[.pointer (some ⟨g, 0, none⟩), .int .i64 3] rfl am_ ?_; (with_reducible refine (hopmeshref02_Reader_Unsigned.calls k g t231 t232 t233 3 t234 t235 t236 t237 w0 _ ?side1 ?side2 A7.out).mono ?_); (case side1 => repeat (first | (with_reducible first | exact HI0.out | apply IsS107.alloc | apply IsS107.drewN | apply IsS107.drew | apply IsS107.set_0 | apply IsS107.set_1 | apply IsS107.set_2) | exact HI0.out)); (case side2 => repeat (first | (with_reducible first | exact HB.out | apply below_alloc | apply pw_below_drewN | apply below_drew1 | refine below_set ?_ (IsS107.ge HI0.out)) | exact HB.out)); rintro e w10 ⟨rfl, hi, hb, hk⟩; refine ⟨_, rfl, ?_⟩; have n0_ := Aside0.mk (KeepBut.trans (by repeat (first | (with_reducible first | exact HK.out | apply KeepBut.set_ | apply keep_drewN | apply keep_drew | apply keep_alloc) | exact HK.out)) hk (.inl rfl)); have n1_ := Aside0.mk (hb); have n2_ := Aside0.mk (hi); clear HK; clear HB; clear HI0; have HK := n0_; have HB := n1_; have HI0 := n2_; clear n0_ n1_ n2_; (try clear hb); (try clear hb2); (try clear hk); (try clear hi)) | ((with_reducible refine gate_callee (f := 83) rfl ?_); refine goesL_ (some 16) rfl rfl Try.func83 (by kernel_rfl) rfl #[.pointer (some ⟨g, 0, none⟩), .int .i64 0] rfl am_ ?_; (with_reducible refine (hopmeshref02_Reader_Unsigned.calls k g t235 t236 t237 0 t238 t239 t240 t241 w0 _ ?side1 ?side2 A9.out).mono ?_); (case side1 => repeat (first | (with_reducible first | exact HI0.out | apply IsS107.alloc | apply IsS107.drewN | apply IsS107.drew | apply IsS107.set_0 | apply IsS107.set_1 | apply IsS107.set_2) | exact HI0.out)); (case side2 => repeat (first | (with_reducible first | exact HB.out | apply below_alloc | apply pw_below_drewN | apply below_drew1 | refine below_set ?_ (IsS107.ge HI0.out)) | exact HB.out)); rintro e w11 ⟨rfl, hi, hb, hk⟩; refine ⟨_, rfl, ?_⟩; have n0_ := Aside0.mk (KeepBut.trans (by repeat (first | (with_reducible first | exact HK.out | apply KeepBut.set_ | apply keep_drewN | apply keep_drew | apply keep_alloc) | exact HK.out)) hk (.inl rfl)); have n1_ := Aside0.mk (hb); have n2_ := Aside0.mk (hi); clear HK; clear HB; clear HI0; have HK := n0_; have HB := n1_; have HI0 := n2_; clear n0_ n1_ n2_; (try clear hb); (try clear hb2); (try clear hk); (try clear hi)))
    go_ret
    exact ⟨er_, by repeat (first | (with_reducible first | exact HI0.out | apply IsS107.alloc | apply IsS107.drewN | apply IsS107.drew | apply IsS107.set_0 | apply IsS107.set_1 | apply IsS107.set_2) | exact HI0.out), by repeat (first | (with_reducible first | exact HB.out | apply below_alloc | apply pw_below_drewN | apply below_drew1 | refine below_set ?_ (IsS107.ge HI0.out)) | exact HB.out), by repeat (first | (with_reducible first | exact HK.out | apply KeepBut.set_ | apply keep_drewN | apply keep_drew | apply keep_alloc) | exact HK.out)⟩
   ·
    rw [if_neg c8] at H
    have c8b0 : decide ((l1.length : Int) ≤ t234) = false := decide_eq_false c8
    clear c8
    (first | rw [c8b0] | (simp only [i64_w, i32_w]; rw [c8b0]) | skip)
    by_cases c12 : 0 ≤ t234
    ·
     rw [if_pos c12] at H
     have c12b0 : decide (0 ≤ t234) = true := decide_eq_true c12
     clear c12
     by_cases c13 : t234 < (l1.length : Int)
     ·
      rw [if_pos c13] at H
      have c13b0 : decide (t234 < (l1.length : Int)) = true := decide_eq_true c13
      clear c13
      have H' := Aside0.mk H
      clear H
      go_wp2_with (first | ((with_reducible refine gate_callee (f := 83) rfl ?_); refine goesL_ (some 10) rfl rfl Try.func83 (by kernel_rfl) rfl #[.pointer (some ⟨g, 0, none⟩), .int .i64 3] rfl am_ ?_; (with_reducible refine (hopmeshref02_Reader_Unsigned.calls k g t231 t232 t233 3 t234 t235 t236 t237 w0 _ ?side1 ?side2 A7.out).mono ?_); (case side1 => repeat (first | (with_reducible first | exact HI0.out | apply IsS107.alloc | apply IsS107.drewN | apply IsS107.drew | apply IsS107.set_0 | apply IsS107.set_1 | apply IsS107.set_2) | exact HI0.out)); (case side2 => repeat (first | (with_reducible first | exact HB.out | apply below_alloc | apply pw_below_drewN | apply below_drew1 | refine below_set ?_ (IsS107.ge HI0.out)) | exact HB.out)); rintro e w14 ⟨rfl, hi, hb, hk⟩; refine ⟨_, rfl, ?_⟩; have n0_ := Aside0.mk (KeepBut.trans (by repeat (first | (with_reducible first | exact HK.out | apply KeepBut.set_ | apply keep_drewN | apply keep_drew | apply keep_alloc) | exact HK.out)) hk (.inl rfl)); have n1_ := Aside0.mk (hb); have n2_ := Aside0.mk (hi); clear HK; clear HB; clear HI0; have HK := n0_; have HB := n1_; have HI0 := n2_; clear n0_ n1_ n2_; (try clear hb); (try clear hb2); (try clear hk); (try clear hi); have p242 : 0 ≤ (t234 : Int) := of_decide_eq_true (by assumption); have q242 : t234 < (l1.length : Int) := of_decide_eq_true (by assumption); obtain ⟨ad242, e242, hx242_0⟩ := at_T26 (Kd.C_foot_now HR1.out HK.out) t234 p242 q242; cases e242; replace p242 := eq_true p242; replace q242 := eq_true q242))
      go_meet
      case rel => exact ⟨_, ((rd_T26 l1 t234).f0), (t235), (t236), (t237), rl_, H', ⟨by first | omega | exact Nat.le_refl _⟩, ⟨by repeat (first | (with_reducible first | exact HI0.out | apply IsS107.alloc | apply IsS107.drewN | apply IsS107.drew | apply IsS107.set_0 | apply IsS107.set_1 | apply IsS107.set_2) | exact HI0.out)⟩, ⟨by repeat (first | (with_reducible first | exact HK.out | apply KeepBut.set_ | apply keep_drewN | apply keep_drew | apply keep_alloc) | exact HK.out)⟩, ⟨by repeat (first | (with_reducible first | exact HB.out | apply below_alloc | apply pw_below_drewN | apply below_drew1 | refine below_set ?_ (IsS107.ge HI0.out)) | exact HB.out)⟩⟩
     ·
      rw [if_neg c13] at H
      exact absurd H (by simp)
    ·
     rw [if_neg c12] at H
     exact absurd H (by simp)
  ·
   replace c6 := Bool.eq_false_iff.mpr c6
   subst c6
   have H1 : (hopmeshref14_read.j0 k (⟨#[]⟩ : ByteArray) t231 t232 t233) = some (r1, r2, r3, r4) := by rw [if_neg (show ¬ (false = true) by decide)] at H; exact H
   clear H
   have H := H1
   clear H1
   have H' := Aside0.mk H
   clear H
   go_wp2
   go_meet
   case rel => exact ⟨_, ((⟨#[]⟩ : ByteArray)), (t231), (t232), (t233), rl_, H', ⟨by first | omega | exact Nat.le_refl _⟩, ⟨by repeat (first | (with_reducible first | exact HI0.out | apply IsS107.alloc | apply IsS107.drewN | apply IsS107.drew | apply IsS107.set_0 | apply IsS107.set_1 | apply IsS107.set_2) | exact HI0.out)⟩, ⟨by repeat (first | (with_reducible first | exact HK.out | apply KeepBut.set_ | apply keep_drewN | apply keep_drew | apply keep_alloc) | exact HK.out)⟩, ⟨by repeat (first | (with_reducible first | exact HB.out | apply below_alloc | apply pw_below_drewN | apply below_drew1 | refine below_set ?_ (IsS107.ge HI0.out)) | exact HB.out)⟩⟩
 case rest =>
  clear HC4
  try clear c1; try clear p2; try clear q2; try clear hx2; try clear c6; try clear c8; try clear c8b0; try clear c12; try clear c12b0; try clear c13; try clear c13b0; try clear hx242_0; try clear p242; try clear q242
  (repeat clear HB)
  obtain ⟨kq, x5_3, x1000_3, x1001_3, x1002_3, rfl, HA, HJ3, HI0, HK, HB⟩ := hcut
  cases kq with
  | zero => exact absurd HA.out (by simp [hopmeshref14_read.j0])
  | succ kj3 =>
   have H := HA.out
   clear HA
   simp only [hopmeshref14_read.j0] at H
   have H' := Aside0.mk H
   clear H
   go_wp2
   go_loopg [5] kj3 (fun kq v5 w' => ∃ (x5_2 : ByteArray) (x1000_2 : ByteArray) (x1001_2 : Int) (x1002_2 : Int), v5 = .string x5_2 ∧ Aside0 (hopmeshref14_read.l0 kq x5_2 x1000_2 x1001_2 x1002_2 = some (r1, r2, r3, r4)) ∧ Aside0 (kq ≤ kj3) ∧ Aside0 (IsS107 w0 w' g x1000_2 x1001_2 x1002_2) ∧ Aside0 (KeepBut w w' g none) ∧ Aside0 (Below w0.heap.size w0 w'))
   case atStart => exact ⟨(x5_3), (x1000_3), (x1001_3), (x1002_3), rl_, H', ⟨Nat.le_refl _⟩, ⟨by repeat (first | (with_reducible first | exact HI0.out | apply IsS107.alloc | apply IsS107.drewN | apply IsS107.drew | apply IsS107.set_0 | apply IsS107.set_1 | apply IsS107.set_2) | exact HI0.out)⟩, ⟨by repeat (first | (with_reducible first | exact HK.out | apply KeepBut.set_ | apply keep_drewN | apply keep_drew | apply keep_alloc) | exact HK.out)⟩, ⟨by repeat (first | (with_reducible first | exact HB.out | apply below_alloc | apply pw_below_drewN | apply below_drew1 | refine below_set ?_ (IsS107.ge HI0.out)) | exact HB.out)⟩⟩
   case round =>
    clear H'
    try clear c1; try clear p2; try clear q2; try clear hx2; try clear c6; try clear c8; try clear c8b0; try clear c12; try clear c12b0; try clear c13; try clear c13b0; try clear hx242_0; try clear p2; try clear p242; try clear q2; try clear q242
    (repeat clear HB)
    obtain ⟨x5_2, x1000_2, x1001_2, x1002_2, rfl, HA, HK2, HI0, HK, HB⟩ := hrel
    cases gk with
    | zero => exact absurd HA.out (by simp [hopmeshref14_read.l0])
    | succ k2 =>
     have H := HA.out
     clear HA
     simp only [hopmeshref14_read.l0] at H
     by_cases c15 : (x5_2.size : Int) < 4
     ·
      rw [if_pos c15] at H
      have c15b0 : decide ((x5_2.size : Int) < 4) = true := decide_eq_true c15
      have c15b1 : decide (x5_2.size < 4) = true := decide_eq_true (by omega)
      clear c15
      replace H := Option.bind_eq_some_iff.mp H
      obtain ⟨⟨t243, t244, t245, t246⟩, A160, H⟩ := H
      replace H : (if t243 = 0 then ((hopmeshref02_Reader_Unsigned.f k2 t244 t245 t246 8).bind fun bt247 => ((some (([(bt247.1) % 256] : List Int) : List Int)).bind fun y251 => (if x5_2.size + (strOfNums y251).size ≤ 9223372036854775807 then (hopmeshref14_read.l0 k2 (x5_2 ++ (strOfNums y251)) bt247.2.1 bt247.2.2.1 bt247.2.2.2) else (none)))) else (some (x5_2, t244, t245, t246))) = some (r1, r2, r3, r4) := H
      have A16 := Aside0.mk A160
      clear A160
      by_cases c17 : t243 = 0
      ·
       rw [if_pos c17] at H
       have c17b0 : (t243 == 0) = true := beq_iff_eq.mpr c17
       have c17b1 : (t243 != 0) = false := bne_eq_false_iff_eq.mpr c17
       clear c17
       replace H := Option.bind_eq_some_iff.mp H
       obtain ⟨⟨t247, t248, t249, t250⟩, A180, H⟩ := H
       replace H : ((some (([(t247) % 256] : List Int) : List Int)).bind fun y251 => (if x5_2.size + (strOfNums y251).size ≤ 9223372036854775807 then (hopmeshref14_read.l0 k2 (x5_2 ++ (strOfNums y251)) t248 t249 t250) else (none))) = some (r1, r2, r3, r4) := H
       have A18 := Aside0.mk A180
       clear A180
       obtain ⟨y251, hy251⟩ : ∃ y_ : List Int, y_ = (([(t247) % 256] : List Int)) := ⟨_, rfl⟩
       replace H : (if x5_2.size + (strOfNums y251).size ≤ 9223372036854775807 then (hopmeshref14_read.l0 k2 (x5_2 ++ (strOfNums y251)) t248 t249 t250) else (none)) = some (r1, r2, r3, r4) := by first | (rw [hy251]; with_reducible exact H) | (have H2_ := (Option.bind_some _ _).symm.trans H; rw [hy251]; with_reducible exact H2_) | (have H2_ := (Option.bind_some _ _).symm.trans H; with_reducible exact H2_) | with_reducible exact H | (rw [hy251]; exact H) | exact H
       have Ny251 := Aside0.mk hy251
       clear hy251
       by_cases c19 : x5_2.size + (strOfNums y251).size ≤ 9223372036854775807
       ·
        rw [if_pos c19] at H
        have c19b0 := eq_true c19
        have c19b1 : decide (x5_2.size + (strOfNums y251).size ≤ 9223372036854775807) = true := decide_eq_true c19
        try have c19b2 : (9223372036854775807 < x5_2.size + (strOfNums y251).size) = False := eq_false (Nat.not_lt.2 c19)
        have H' := Aside0.mk H
        clear H
        go_wp2_with (first | (go_at_call 49; (with_reducible refine (hopmeshref02_Reader_Err.calls g x1000_2 x1001_2 x1002_2 t243 t244 t245 t246 w0 _ ?side1 ?side2 A16.out).mono ?_); (case side1 => repeat (first | (with_reducible first | exact HI0.out | apply IsS107.alloc | apply IsS107.drewN | apply IsS107.drew | apply IsS107.set_0 | apply IsS107.set_1 | apply IsS107.set_2) | exact HI0.out)); (case side2 => repeat (first | (with_reducible first | exact HB.out | apply below_alloc | apply pw_below_drewN | apply below_drew1 | refine below_set ?_ (IsS107.ge HI0.out)) | exact HB.out)); rintro e w20 ⟨rfl, hi, hb, hk⟩; have n0_ := Aside0.mk (KeepBut.trans (by repeat (first | (with_reducible first | exact HK.out | apply KeepBut.set_ | apply keep_drewN | apply keep_drew | apply keep_alloc) | exact HK.out)) hk (.inl rfl)); have n1_ := Aside0.mk (hb); have n2_ := Aside0.mk (hi); clear HK; clear HB; clear HI0; have HK := n0_; have HB := n1_; have HI0 := n2_; clear n0_ n1_ n2_; (try clear hb); (try clear hb2); (try clear hk); (try clear hi)) | ((with_reducible refine gate_callee (f := 83) rfl ?_); refine goesL_ (some 32) rfl rfl Try.func83 (by kernel_rfl) rfl #[.pointer (some ⟨g, 0, none⟩), .int .i64 8] rfl am_ ?_; (with_reducible refine (hopmeshref02_Reader_Unsigned.calls k2 g t244 t245 t246 8 t247 t248 t249 t250 w0 _ ?side1 ?side2 A18.out).mono ?_); (case side1 => repeat (first | (with_reducible first | exact HI0.out | apply IsS107.alloc | apply IsS107.drewN | apply IsS107.drew | apply IsS107.set_0 | apply IsS107.set_1 | apply IsS107.set_2) | exact HI0.out)); (case side2 => repeat (first | (with_reducible first | exact HB.out | apply below_alloc | apply pw_below_drewN | apply below_drew1 | refine below_set ?_ (IsS107.ge HI0.out)) | exact HB.out)); rintro e w21 ⟨rfl, hi, hb, hk⟩; refine ⟨_, rfl, ?_⟩; have n0_ := Aside0.mk (KeepBut.trans (by repeat (first | (with_reducible first | exact HK.out | apply KeepBut.set_ | apply keep_drewN | apply keep_drew | apply keep_alloc) | exact HK.out)) hk (.inl rfl)); have n1_ := Aside0.mk (hb); have n2_ := Aside0.mk (hi); clear HK; clear HB; clear HI0; have HK := n0_; have HB := n1_; have HI0 := n2_; clear n0_ n1_ n2_; (try clear hb); (try clear hb2); (try clear hk); (try clear hi)) | ((with_reducible refine gate_dst (N := 34) rfl ?_); refine Kd.R_lit (Kd.int .u8) _ 5 ?hg (N := 34) ?hd (xs := ([(t247) % 256] : List Int)) (inner := [.int .u8 ((t247) % 256)]) (ok := fun _ => True) (okp := fun _ => True) ?hr ?hp (fun _ hk => hk) trivial (Below.refl _ _) (Nat.le_refl _) (by simp) ?_; (case hd => rfl); (case hg => rfl); (case hr => first | (go_simp; done) | (go_simp; rfl)); (case hp => exact (Reps.one (show Kd.M (Kd.int .u8) _ _ _ ((t247) % 256) [.int .u8 ((t247) % 256)] from rfl) (Reps.none _ _))); intro v252 w22 ho23 hb hg_ hnew_; clear hg_ hnew_; (first | rw [← Ny251.out] at ho23 | (simp only [Int.reduceToNat] at ho23; rw [← Ny251.out] at ho23)); have n0_ := Aside0.mk (Kd.R_lower ho23 (keep_size (w := w) (g := g) (row := none) (by repeat (first | (with_reducible first | exact HK.out | apply KeepBut.set_ | apply keep_drewN | apply keep_drew | apply keep_alloc) | exact HK.out)))); have n1_ := Aside0.mk (IsS107.below (by repeat (first | (with_reducible first | exact HI0.out | apply IsS107.alloc | apply IsS107.drewN | apply IsS107.drew | apply IsS107.set_0 | apply IsS107.set_1 | apply IsS107.set_2) | exact HI0.out)) hb); have n2_ := Aside0.mk (KeepBut.trans (by repeat (first | (with_reducible first | exact HK.out | apply KeepBut.set_ | apply keep_drewN | apply keep_drew | apply keep_alloc) | exact HK.out)) (KeepBut.of_below hb g none) (.inl rfl)); have n3_ := Aside0.mk (below_step (by repeat (first | (with_reducible first | exact HB.out | apply below_alloc | apply pw_below_drewN | apply below_drew1 | refine below_set ?_ (IsS107.ge HI0.out)) | exact HB.out)) hb); clear HI0; clear HK; clear HB; have HO253 := n0_; have HI0 := n1_; have HK := n2_; have HB := n3_; clear n0_ n1_ n2_ n3_; clear hb ho23; have hcv24 := own_string (P := Try.prog) Try.underlying92 Try.underlying5 Try.underlying9 (Kd.own_of_R HO253.out)))
        go_roundg k2
        case measure => have := HJ3.out; have := HK2.out; omega
        case rel => exact ⟨(x5_2 ++ (strOfNums y251)), (t248), (t249), (t250), rl_, H', ⟨by have := HJ3.out; have := HK2.out; omega⟩, ⟨by repeat (first | (with_reducible first | exact HI0.out | apply IsS107.alloc | apply IsS107.drewN | apply IsS107.drew | apply IsS107.set_0 | apply IsS107.set_1 | apply IsS107.set_2) | exact HI0.out)⟩, ⟨by repeat (first | (with_reducible first | exact HK.out | apply KeepBut.set_ | apply keep_drewN | apply keep_drew | apply keep_alloc) | exact HK.out)⟩, ⟨by repeat (first | (with_reducible first | exact HB.out | apply below_alloc | apply pw_below_drewN | apply below_drew1 | refine below_set ?_ (IsS107.ge HI0.out)) | exact HB.out)⟩⟩
       ·
        rw [if_neg c19] at H
        exact absurd H (by simp)
      ·
       rw [if_neg c17] at H
       have c17b0 : (t243 == 0) = false := beq_eq_false_iff_ne.mpr c17
       have c17b1 : (t243 != 0) = true := bne_iff_ne.mpr c17
       simp only [Option.some.injEq, Prod.mk.injEq] at H
       obtain ⟨rfl, rfl, rfl, rfl⟩ := H
       go_wp2_with (first | (go_at_call 49; (with_reducible refine (hopmeshref02_Reader_Err.calls g x1000_2 x1001_2 x1002_2 t243 t244 t245 t246 w0 _ ?side1 ?side2 A16.out).mono ?_); (case side1 => repeat (first | (with_reducible first | exact HI0.out | apply IsS107.alloc | apply IsS107.drewN | apply IsS107.drew | apply IsS107.set_0 | apply IsS107.set_1 | apply IsS107.set_2) | exact HI0.out)); (case side2 => repeat (first | (with_reducible first | exact HB.out | apply below_alloc | apply pw_below_drewN | apply below_drew1 | refine below_set ?_ (IsS107.ge HI0.out)) | exact HB.out)); rintro e w25 ⟨rfl, hi, hb, hk⟩; have n0_ := Aside0.mk (KeepBut.trans (by repeat (first | (with_reducible first | exact HK.out | apply KeepBut.set_ | apply keep_drewN | apply keep_drew | apply keep_alloc) | exact HK.out)) hk (.inl rfl)); have n1_ := Aside0.mk (hb); have n2_ := Aside0.mk (hi); clear HK; clear HB; clear HI0; have HK := n0_; have HB := n1_; have HI0 := n2_; clear n0_ n1_ n2_; (try clear hb); (try clear hb2); (try clear hk); (try clear hi)))
       go_ret
       exact ⟨er_, by repeat (first | (with_reducible first | exact HI0.out | apply IsS107.alloc | apply IsS107.drewN | apply IsS107.drew | apply IsS107.set_0 | apply IsS107.set_1 | apply IsS107.set_2) | exact HI0.out), by repeat (first | (with_reducible first | exact HB.out | apply below_alloc | apply pw_below_drewN | apply below_drew1 | refine below_set ?_ (IsS107.ge HI0.out)) | exact HB.out), by repeat (first | (with_reducible first | exact HK.out | apply KeepBut.set_ | apply keep_drewN | apply keep_drew | apply keep_alloc) | exact HK.out)⟩
     ·
      rw [if_neg c15] at H
      have c15b0 : decide ((x5_2.size : Int) < 4) = false := decide_eq_false c15
      have c15b1 : decide (x5_2.size < 4) = false := decide_eq_false (by omega)
      clear c15
      simp only [Option.some.injEq, Prod.mk.injEq] at H
      obtain ⟨rfl, rfl, rfl, rfl⟩ := H
      go_wp2
      go_ret
      exact ⟨er_, by repeat (first | (with_reducible first | exact HI0.out | apply IsS107.alloc | apply IsS107.drewN | apply IsS107.drew | apply IsS107.set_0 | apply IsS107.set_1 | apply IsS107.set_2) | exact HI0.out), by repeat (first | (with_reducible first | exact HB.out | apply below_alloc | apply pw_below_drewN | apply below_drew1 | refine below_set ?_ (IsS107.ge HI0.out)) | exact HB.out), by repeat (first | (with_reducible first | exact HK.out | apply KeepBut.set_ | apply keep_drewN | apply keep_drew | apply keep_alloc) | exact HK.out)⟩

end Go.Proofs.Ytmbbijhppgkdfaa.P14
