-- Written by a program of this session (wip/tools) over the kit's print; Lean checks it.
import Derived.Test.YtmbbijhppgkdfaaP140
import Derived.Test.YtmbbijhppgkdfaaP14Aw
import Derived.Test.YtmbbijhppgkdfaaP14Sh
import Derived.Test.YtmbbijhppgkdfaaGclone
import Derived.Test.YtmbbijhppgkdfaaGcomp
import Derived.Test.YtmbbijhppgkdfaaGfew
namespace Go.Proofs.Ytmbbijhppgkdfaa.P14
open Go.RowKit Go.Proofs.YtmbbijhppgkdfaaW.PrintWords Go.Proofs.YtmbbijhppgkdfaaW.PrintLast Go.Proofs.YtmbbijhppgkdfaaW.PrintMore
attribute [local go_sem] max2_int min2_int max_two min_two max_three min_three max_four min_four   -- for this text's walks alone
set_option linter.unusedVariables false
set_option linter.unusedSimpArgs false

/-! ### hopmeshlaw14_CompressShorter: function 3 -/
mutual
def hopmeshlaw14_CompressShorter.j0 : Nat → List (S26) → Bool → Int → Int → ByteArray → ByteArray → Int → Int → Int → ByteArray → Option (Bool)
 | 0, _, _, _, _, _, _, _, _, _, _ => none
 | k + 1, x0, x33, x119000, x119001, x119002, x119003, x119004, x119005, x119006, x120000 => if x33 = true then (some true) else ((api_Context.f x0).bind fun t123 => ((compress_Bits.f t123 x119000 x119001 x119002 x119003 x119004 x119005 x119006).bind fun bt126 => ((api_Context.f x0).bind fun t128 => ((some (([(⟨x120000⟩ : S26)] : List (S26)) : List (S26))).bind fun y131 => (if t128.length + y131.length < 8796093022208 then ((compress_Bits.f (t128 ++ y131) x119000 x119001 x119002 x119003 x119004 x119005 x119006).bind fun bt137 => ((compress_Bits.f ([] : List (S26)) x119000 x119001 x119002 x119003 x119004 x119005 x119006).bind fun bt139 => (if bt126.2 = 0 then (if bt137.2 = 0 then (hopmeshlaw14_CompressShorter.j1 k bt126.1 bt137.1 bt139.1 (bt139.2 != 0)) else (hopmeshlaw14_CompressShorter.j1 k bt126.1 bt137.1 bt139.1 true)) else (hopmeshlaw14_CompressShorter.j1 k bt126.1 bt137.1 bt139.1 true)))) else (none))))))
def hopmeshlaw14_CompressShorter.j1 : Nat → Int → Int → Int → Bool → Option (Bool)
 | 0, _, _, _, _ => none
 | k + 1, x7, x9, x11, x65 => if x65 = true then (some true) else (if x9 ≤ x7 then (some (decide (x7 ≤ x11))) else (some false))
end
def hopmeshlaw14_CompressShorter.f (k : Nat) (l0 : List (S26)) (a1_0 : Int) (a1_1 : Int) (a1_2 : ByteArray) (a1_3 : ByteArray) (a1_4 : Int) (a1_5 : Int) (a1_6 : Int) (a2_0 : ByteArray) : Option (Bool) := (hopmeshlaw14_awake.f k).bind fun t120 => (if t120 = true then ((hopmeshlaw14_few.f l0).bind fun t121 => (if t121 = true then ((hopmeshlaw14_short.f a1_0 a1_1 a1_2 a1_3 a1_4 a1_5 a1_6).bind fun t122 => (if t122 = true then (if (a2_0.size : Int) > 20 then (hopmeshlaw14_CompressShorter.j0 k l0 true a1_0 a1_1 a1_2 a1_3 a1_4 a1_5 a1_6 a2_0) else (hopmeshlaw14_CompressShorter.j0 k l0 (decide ((l0.length : Int) > 7)) a1_0 a1_1 a1_2 a1_3 a1_4 a1_5 a1_6 a2_0)) else (hopmeshlaw14_CompressShorter.j0 k l0 true a1_0 a1_1 a1_2 a1_3 a1_4 a1_5 a1_6 a2_0))) else (hopmeshlaw14_CompressShorter.j0 k l0 true a1_0 a1_1 a1_2 a1_3 a1_4 a1_5 a1_6 a2_0))) else (some false))
theorem hopmeshlaw14_CompressShorter.mono_l : ∀ k, (∀ y0 y1 y2 y3 y4 y5 y6 y7 y8 y9, LeO (hopmeshlaw14_CompressShorter.j0 k y0 y1 y2 y3 y4 y5 y6 y7 y8 y9) (hopmeshlaw14_CompressShorter.j0 (k + 1) y0 y1 y2 y3 y4 y5 y6 y7 y8 y9)) ∧ (∀ y0 y1 y2 y3, LeO (hopmeshlaw14_CompressShorter.j1 k y0 y1 y2 y3) (hopmeshlaw14_CompressShorter.j1 (k + 1) y0 y1 y2 y3))
 | 0 => ⟨fun _ _ _ _ _ _ _ _ _ _ r h => by simp [hopmeshlaw14_CompressShorter.j0] at h, fun _ _ _ _ r h => by simp [hopmeshlaw14_CompressShorter.j1] at h⟩
 | k + 1 => by
  obtain ⟨ih0, ih1⟩ := hopmeshlaw14_CompressShorter.mono_l k
  refine ⟨?_, ?_⟩
  ·
   intro y0 y1 y2 y3 y4 y5 y6 y7 y8 y9
   unfold hopmeshlaw14_CompressShorter.j0
   repeat' first
   | (with_reducible exact ih0 _ _ _ _ _ _ _ _ _ _)
   | (with_reducible exact ih1 _ _ _ _)
   | (with_reducible exact hopmeshlaw14_awake.mono _)
   | (with_reducible exact LeO.refl _)
   | (with_reducible exact LeO.none _)
   | (with_reducible refine LeO.ite ?_ ?_)
   | (with_reducible refine LeO.bind ?_ (fun _ => ?_))
   | exact ih0 _ _ _ _ _ _ _ _ _ _
   | exact ih1 _ _ _ _
   | exact hopmeshlaw14_awake.mono _
   | exact LeO.none _
   | refine LeO.ite ?_ ?_
   | refine LeO.bind ?_ (fun _ => ?_)
  ·
   intro y0 y1 y2 y3
   unfold hopmeshlaw14_CompressShorter.j1
   repeat' first
   | (with_reducible exact ih0 _ _ _ _ _ _ _ _ _ _)
   | (with_reducible exact ih1 _ _ _ _)
   | (with_reducible exact hopmeshlaw14_awake.mono _)
   | (with_reducible exact LeO.refl _)
   | (with_reducible exact LeO.none _)
   | (with_reducible refine LeO.ite ?_ ?_)
   | (with_reducible refine LeO.bind ?_ (fun _ => ?_))
   | exact ih0 _ _ _ _ _ _ _ _ _ _
   | exact ih1 _ _ _ _
   | exact hopmeshlaw14_awake.mono _
   | exact LeO.none _
   | refine LeO.ite ?_ ?_
   | refine LeO.bind ?_ (fun _ => ?_)
theorem hopmeshlaw14_CompressShorter.mono : ∀ a0 a1 a2 a3 a4 a5 a6 a7 a8 k, LeO (hopmeshlaw14_CompressShorter.f k a0 a1 a2 a3 a4 a5 a6 a7 a8) (hopmeshlaw14_CompressShorter.f (k + 1) a0 a1 a2 a3 a4 a5 a6 a7 a8) := by
 intro a0 a1 a2 a3 a4 a5 a6 a7 a8 k
 obtain ⟨ih0, ih1⟩ := hopmeshlaw14_CompressShorter.mono_l k
 unfold hopmeshlaw14_CompressShorter.f
 repeat' first
   | (with_reducible exact ih0 _ _ _ _ _ _ _ _ _ _)
   | (with_reducible exact ih1 _ _ _ _)
   | (with_reducible exact hopmeshlaw14_awake.mono _)
   | (with_reducible exact LeO.refl _)
   | (with_reducible exact LeO.none _)
   | (with_reducible refine LeO.ite ?_ ?_)
   | (with_reducible refine LeO.bind ?_ (fun _ => ?_))
   | exact ih0 _ _ _ _ _ _ _ _ _ _
   | exact ih1 _ _ _ _
   | exact hopmeshlaw14_awake.mono _
   | exact LeO.none _
   | refine LeO.ite ?_ ?_
   | refine LeO.bind ?_ (fun _ => ?_)
def hopmeshlaw14_CompressShorter.T5 : Bool × List (List Nat × List Nat) := (true, [([], []), ([0], [0]), ([], []), ([1, 2, 1], [1, 2]), ([3], [3]), ([4], [4]), ([4], [4]), ([5, 3, 0, 1, 2, 3, 4, 5], [5]), ([6, 7, 0, 1, 2, 3, 4, 5, 6, 7], [6])])
def hopmeshlaw14_CompressShorter.B5 : List Nat := [0, 1, 0, 7, 15, 31, 31, 63, 255]
theorem hopmeshlaw14_CompressShorter.tab5 : rtab .any (opsOf Try.f3 5) = hopmeshlaw14_CompressShorter.T5 := by kernel_rfl
theorem hopmeshlaw14_CompressShorter.bits5 : waitsOk hopmeshlaw14_CompressShorter.T5.2 hopmeshlaw14_CompressShorter.B5 = true := by kernel_rfl
def hopmeshlaw14_CompressShorter.T6 : Bool × List (List Nat × List Nat) := (true, [([], []), ([0], [0]), ([], []), ([2], [2]), ([1, 3, 1], [1, 3]), ([], []), ([4, 5, 4], [4, 5]), ([6], [6]), ([7], [7]), ([7], [7]), ([8, 6, 0, 1, 2, 3, 4, 5, 6, 7, 8], [8]), ([9, 10, 0, 1, 2, 3, 4, 5, 6, 7, 8, 9, 10], [9])])
def hopmeshlaw14_CompressShorter.B6 : List Nat := [0, 1, 0, 4, 15, 0, 63, 127, 255, 255, 511, 2047]
theorem hopmeshlaw14_CompressShorter.tab6 : rtab .any (opsOf Try.f3 6) = hopmeshlaw14_CompressShorter.T6 := by kernel_rfl
theorem hopmeshlaw14_CompressShorter.bits6 : waitsOk hopmeshlaw14_CompressShorter.T6.2 hopmeshlaw14_CompressShorter.B6 = true := by kernel_rfl
set_option maxHeartbeats 8000000 in
set_option maxRecDepth 100000 in
theorem hopmeshlaw14_CompressShorter.calls (k : Nat) (A0 : Option Addr) (c0 : Nat) (l0 : List (S26)) (a1_0 : Int) (a1_1 : Int) (a1_2 : ByteArray) (a1_3 : ByteArray) (a1_4 : Int) (a1_5 : Int) (a1_6 : Int) (a2_0 : ByteArray) (r : Bool) (w : World) (hr0 : Kd.C k26 w A0 l0.length l0) (hc0 : l0.length ≤ c0) (h : hopmeshlaw14_CompressShorter.f k l0 a1_0 a1_1 a1_2 a1_3 a1_4 a1_5 a1_6 a2_0 = some r) :
  Calls Try.prog 3 #[.slice A0 l0.length c0, .agg #[.int .i64 a1_0, .int .i64 a1_1, .string a1_2, .string a1_3, .int .i64 a1_4, .int .i64 a1_5, .int .i64 a1_6], .agg #[.string a2_0]] w fun e w' => e = .returned (.bool r) ∧ Below w.heap.size w w' := by
 have hu24 := Try.underlying24
 have hu26 := Try.underlying26
 have HR0 := Aside0.mk hr0
 have HC0 := Aside0.mk hc0
 clear hr0 hc0
 have HB := Aside0.mk (Below.refl w.heap.size w)
 have H : ((hopmeshlaw14_awake.f k).bind fun t120 => (if t120 = true then ((hopmeshlaw14_few.f l0).bind fun t121 => (if t121 = true then ((hopmeshlaw14_short.f a1_0 a1_1 a1_2 a1_3 a1_4 a1_5 a1_6).bind fun t122 => (if t122 = true then (if (a2_0.size : Int) > 20 then (hopmeshlaw14_CompressShorter.j0 k l0 true a1_0 a1_1 a1_2 a1_3 a1_4 a1_5 a1_6 a2_0) else (hopmeshlaw14_CompressShorter.j0 k l0 (decide ((l0.length : Int) > 7)) a1_0 a1_1 a1_2 a1_3 a1_4 a1_5 a1_6 a2_0)) else (hopmeshlaw14_CompressShorter.j0 k l0 true a1_0 a1_1 a1_2 a1_3 a1_4 a1_5 a1_6 a2_0))) else (hopmeshlaw14_CompressShorter.j0 k l0 true a1_0 a1_1 a1_2 a1_3 a1_4 a1_5 a1_6 a2_0))) else (some false))) = some r := h
 clear h
 replace H := Option.bind_eq_some_iff.mp H
 obtain ⟨t120, A40, H⟩ := H
 replace H : (if t120 = true then ((hopmeshlaw14_few.f l0).bind fun t121 => (if t121 = true then ((hopmeshlaw14_short.f a1_0 a1_1 a1_2 a1_3 a1_4 a1_5 a1_6).bind fun t122 => (if t122 = true then (if (a2_0.size : Int) > 20 then (hopmeshlaw14_CompressShorter.j0 k l0 true a1_0 a1_1 a1_2 a1_3 a1_4 a1_5 a1_6 a2_0) else (hopmeshlaw14_CompressShorter.j0 k l0 (decide ((l0.length : Int) > 7)) a1_0 a1_1 a1_2 a1_3 a1_4 a1_5 a1_6 a2_0)) else (hopmeshlaw14_CompressShorter.j0 k l0 true a1_0 a1_1 a1_2 a1_3 a1_4 a1_5 a1_6 a2_0))) else (hopmeshlaw14_CompressShorter.j0 k l0 true a1_0 a1_1 a1_2 a1_3 a1_4 a1_5 a1_6 a2_0))) else (some false)) = some r := H
 have A4 := Aside0.mk A40
 clear A40
 by_cases c5 : t120 = true
 ·
  subst c5
  have H1 : ((hopmeshlaw14_few.f l0).bind fun t121 => (if t121 = true then ((hopmeshlaw14_short.f a1_0 a1_1 a1_2 a1_3 a1_4 a1_5 a1_6).bind fun t122 => (if t122 = true then (if (a2_0.size : Int) > 20 then (hopmeshlaw14_CompressShorter.j0 k l0 true a1_0 a1_1 a1_2 a1_3 a1_4 a1_5 a1_6 a2_0) else (hopmeshlaw14_CompressShorter.j0 k l0 (decide ((l0.length : Int) > 7)) a1_0 a1_1 a1_2 a1_3 a1_4 a1_5 a1_6 a2_0)) else (hopmeshlaw14_CompressShorter.j0 k l0 true a1_0 a1_1 a1_2 a1_3 a1_4 a1_5 a1_6 a2_0))) else (hopmeshlaw14_CompressShorter.j0 k l0 true a1_0 a1_1 a1_2 a1_3 a1_4 a1_5 a1_6 a2_0))) = some r := by rw [if_pos rfl] at H; exact H
  clear H
  have H := H1
  clear H1
  have HC6 := Aside0.mk H
  clear H
  go_enter Try.func3, Try.ntmps3
  go_upto_region 3 with (first | ((with_reducible refine gate_dst (N := 4) rfl ?_); refine bx_ 4 #[.int .i64 a1_0, .int .i64 a1_1, .string a1_2, .string a1_3, .int .i64 a1_4, .int .i64 a1_5, .int .i64 a1_6] 24 ?_; intro gb118 hg w7 hbox hb; have n0_ := Aside0.mk (below_step hb_ hb); have n1_ := Aside0.mk (hbox); have n2_ := Aside0.mk ((by rw [hg]; exact (below_size hb_) : w.heap.size ≤ gb118)); have n3_ := Aside0.mk ((by rw [hg]; exact (below_size hb_) : w.heap.size ≤ gb118)); clear HB; have HB := n0_; have BK118 := n1_; have GW118 := n2_; have GE118 := n3_; clear n0_ n1_ n2_ n3_; clear hb hbox hg) | ((with_reducible refine gate_dst (N := 5) rfl ?_); refine bx_ 5 #[.string a2_0] 26 ?_; intro gb119 hg w8 hbox hb; have n0_ := bk_ BK118 hb; have n1_ := Aside0.mk (below_step hb_ hb); have n2_ := Aside0.mk (hbox); have n3_ := Aside0.mk ((by rw [hg]; exact (below_size hb_) : w.heap.size ≤ gb119)); have n4_ := Aside0.mk ((by rw [hg]; exact (below_size hb_) : w.heap.size ≤ gb119)); have n5_ := Aside0.mk ((by rw [hg]; exact Nat.ne_of_lt (blk_lt (bj_ BK118)) : gb118 ≠ gb119)); have n6_ := Aside0.mk ((by rw [hg]; exact Nat.ne_of_gt (blk_lt (bj_ BK118)) : gb119 ≠ gb118)); clear BK118; clear HB; have BK118 := n0_; have HB := n1_; have BK119 := n2_; have GW119 := n3_; have GE119 := n4_; have NB118_119 := n5_; have NB119_118 := n6_; clear n0_ n1_ n2_ n3_ n4_ n5_ n6_; clear hb hbox hg) | ((with_reducible refine gate_callee (f := 10) rfl ?_); refine goesL_ (some 13) rfl rfl Try.func10 (by kernel_rfl) rfl #[] rfl am_ ?_; (with_reducible refine (hopmeshlaw14_awake.calls k  true _ A4.out).mono ?_); rintro e w9 ⟨rfl, hb⟩; refine ⟨_, rfl, ?_⟩; have n0_ := bk_ BK118 hb; have n1_ := bk_ BK119 hb; have n2_ := Aside0.mk (below_step hb_ hb); clear BK118; clear BK119; clear HB; have BK118 := n0_; have BK119 := n1_; have HB := n2_; clear n0_ n1_ n2_; (try clear hb); (try clear hb2); (try clear hk); (try clear hi)))
  (try simp only [Act.put, List.setIfInBounds_toArray, List.set_cons_zero, List.set_cons_succ])
  go_cut [33] (fun v33 wc => ∃ (kq : Nat) (x33_5 : Bool), v33 = .bool x33_5 ∧ Aside0 (hopmeshlaw14_CompressShorter.j0 kq l0 x33_5 a1_0 a1_1 a1_2 a1_3 a1_4 a1_5 a1_6 a2_0 = some r) ∧ Aside0 (kq ≤ k) ∧ Aside0 (wc.heap[gb118]? = some (.cells #[.int .i64 a1_0, .int .i64 a1_1, .string a1_2, .string a1_3, .int .i64 a1_4, .int .i64 a1_5, .int .i64 a1_6] 24 (0, 0))) ∧ Aside0 (wc.heap[gb119]? = some (.cells #[.string a2_0] 26 (0, 0))) ∧ Aside0 (Below w.heap.size w wc))
  case first =>
   have H := HC6.out
   clear HC6
   replace H := Option.bind_eq_some_iff.mp H
   obtain ⟨t121, A100, H⟩ := H
   replace H : (if t121 = true then ((hopmeshlaw14_short.f a1_0 a1_1 a1_2 a1_3 a1_4 a1_5 a1_6).bind fun t122 => (if t122 = true then (if (a2_0.size : Int) > 20 then (hopmeshlaw14_CompressShorter.j0 k l0 true a1_0 a1_1 a1_2 a1_3 a1_4 a1_5 a1_6 a2_0) else (hopmeshlaw14_CompressShorter.j0 k l0 (decide ((l0.length : Int) > 7)) a1_0 a1_1 a1_2 a1_3 a1_4 a1_5 a1_6 a2_0)) else (hopmeshlaw14_CompressShorter.j0 k l0 true a1_0 a1_1 a1_2 a1_3 a1_4 a1_5 a1_6 a2_0))) else (hopmeshlaw14_CompressShorter.j0 k l0 true a1_0 a1_1 a1_2 a1_3 a1_4 a1_5 a1_6 a2_0)) = some r := H
   have A10 := Aside0.mk A100
   clear A100
   by_cases c11 : t121 = true
   ·
    subst c11
    have H1 : ((hopmeshlaw14_short.f a1_0 a1_1 a1_2 a1_3 a1_4 a1_5 a1_6).bind fun t122 => (if t122 = true then (if (a2_0.size : Int) > 20 then (hopmeshlaw14_CompressShorter.j0 k l0 true a1_0 a1_1 a1_2 a1_3 a1_4 a1_5 a1_6 a2_0) else (hopmeshlaw14_CompressShorter.j0 k l0 (decide ((l0.length : Int) > 7)) a1_0 a1_1 a1_2 a1_3 a1_4 a1_5 a1_6 a2_0)) else (hopmeshlaw14_CompressShorter.j0 k l0 true a1_0 a1_1 a1_2 a1_3 a1_4 a1_5 a1_6 a2_0))) = some r := by rw [if_pos rfl] at H; exact H
    clear H
    have H := H1
    clear H1
    replace H := Option.bind_eq_some_iff.mp H
    obtain ⟨t122, A120, H⟩ := H
    replace H : (if t122 = true then (if (a2_0.size : Int) > 20 then (hopmeshlaw14_CompressShorter.j0 k l0 true a1_0 a1_1 a1_2 a1_3 a1_4 a1_5 a1_6 a2_0) else (hopmeshlaw14_CompressShorter.j0 k l0 (decide ((l0.length : Int) > 7)) a1_0 a1_1 a1_2 a1_3 a1_4 a1_5 a1_6 a2_0)) else (hopmeshlaw14_CompressShorter.j0 k l0 true a1_0 a1_1 a1_2 a1_3 a1_4 a1_5 a1_6 a2_0)) = some r := H
    have A12 := Aside0.mk A120
    clear A120
    by_cases c13 : t122 = true
    ·
     subst c13
     have H1 : (if (a2_0.size : Int) > 20 then (hopmeshlaw14_CompressShorter.j0 k l0 true a1_0 a1_1 a1_2 a1_3 a1_4 a1_5 a1_6 a2_0) else (hopmeshlaw14_CompressShorter.j0 k l0 (decide ((l0.length : Int) > 7)) a1_0 a1_1 a1_2 a1_3 a1_4 a1_5 a1_6 a2_0)) = some r := by rw [if_pos rfl] at H; exact H
     clear H
     have H := H1
     clear H1
     by_cases c14 : (a2_0.size : Int) > 20
     ·
      rw [if_pos c14] at H
      have c14b0 : decide (20 < (a2_0.size : Int)) = true := decide_eq_true c14
      have c14b1 : decide (20 < a2_0.size) = true := decide_eq_true (by omega)
      clear c14
      (first | rw [c14b0] | (simp only [i64_w, i32_w]; rw [c14b0]) | skip)
      have H' := Aside0.mk H
      clear H
      go_wp2_with (first | ((with_reducible refine gate_callee (f := 11) rfl ?_); refine goesL_ (some 16) rfl rfl Try.func11 (by kernel_rfl) rfl #[.slice A0 l0.length c0] rfl am_ ?_; (with_reducible refine (hopmeshlaw14_few.calls _ _ l0 true _ ?side1 ?side2 A10.out).mono ?_); (case side1 => repeat (first | exact (Kd.C_below HR0.out HB.out) | (with_reducible refine Kd.C_alloc ?_ _) | (with_reducible refine Kd.C_drewN ?_ _) | (with_reducible refine Kd.C_drew ?_))); (case side2 => exact HC0.out); rintro e w15 ⟨rfl, hb⟩; refine ⟨_, rfl, ?_⟩; have n0_ := bk_ BK118 hb; have n1_ := bk_ BK119 hb; have n2_ := Aside0.mk (below_step hb_ hb); clear BK118; clear BK119; clear HB; have BK118 := n0_; have BK119 := n1_; have HB := n2_; clear n0_ n1_ n2_; (try clear hb); (try clear hb2); (try clear hk); (try clear hi); have hnb16 := NB118_119.out; have hnc16 := NB119_118.out; have hcz17_0 := bc0 BK118; have hcz17_1 := bc1 BK118; have hcz17_2 := bc2 BK118; have hcz17_3 := bc3 BK118; have hcz17_4 := bc4 BK118; have hcz17_5 := bc5 BK118; have hcz17_6 := bc6 BK118; have hfz17_0 := blk_frozen BK118.out 0; have hfz17_1 := blk_frozen BK118.out 1; have hfz17_2 := blk_frozen BK118.out 2; have hfz17_3 := blk_frozen BK118.out 3; have hfz17_4 := blk_frozen BK118.out 4; have hfz17_5 := blk_frozen BK118.out 5; have hfz17_6 := blk_frozen BK118.out 6) | (go_at_call 12; (with_reducible refine (hopmeshlaw14_short.calls a1_0 a1_1 a1_2 a1_3 a1_4 a1_5 a1_6 true _ A12.out).mono ?_); rintro e w18 ⟨rfl, hb⟩; have n0_ := bk_ BK118 hb; have n1_ := bk_ BK119 hb; have n2_ := Aside0.mk (below_step hb_ hb); clear BK118; clear BK119; clear HB; have BK118 := n0_; have BK119 := n1_; have HB := n2_; clear n0_ n1_ n2_; (try clear hb); (try clear hb2); (try clear hk); (try clear hi); have hcz19_0 := bc0 BK119; have hfz19_0 := blk_frozen BK119.out 0))
      go_meet
      case rel => exact ⟨_, (true), rl_, H', ⟨by first | omega | exact Nat.le_refl _⟩, ⟨bj_ BK118⟩, ⟨bj_ BK119⟩, ⟨hb_⟩⟩
     ·
      rw [if_neg c14] at H
      have c14b0 : decide (20 < (a2_0.size : Int)) = false := decide_eq_false c14
      have c14b1 : decide (20 < a2_0.size) = false := decide_eq_false (by omega)
      clear c14
      (first | rw [c14b0] | (simp only [i64_w, i32_w]; rw [c14b0]) | skip)
      have H' := Aside0.mk H
      clear H
      go_wp2_with (first | ((with_reducible refine gate_callee (f := 11) rfl ?_); refine goesL_ (some 16) rfl rfl Try.func11 (by kernel_rfl) rfl #[.slice A0 l0.length c0] rfl am_ ?_; (with_reducible refine (hopmeshlaw14_few.calls _ _ l0 true _ ?side1 ?side2 A10.out).mono ?_); (case side1 => repeat (first | exact (Kd.C_below HR0.out HB.out) | (with_reducible refine Kd.C_alloc ?_ _) | (with_reducible refine Kd.C_drewN ?_ _) | (with_reducible refine Kd.C_drew ?_))); (case side2 => exact HC0.out); rintro e w20 ⟨rfl, hb⟩; refine ⟨_, rfl, ?_⟩; have n0_ := bk_ BK118 hb; have n1_ := bk_ BK119 hb; have n2_ := Aside0.mk (below_step hb_ hb); clear BK118; clear BK119; clear HB; have BK118 := n0_; have BK119 := n1_; have HB := n2_; clear n0_ n1_ n2_; (try clear hb); (try clear hb2); (try clear hk); (try clear hi); have hnb21 := NB118_119.out; have hnc21 := NB119_118.out; have hcz22_0 := bc0 BK118; have hcz22_1 := bc1 BK118; have hcz22_2 := bc2 BK118; have hcz22_3 := bc3 BK118; have hcz22_4 := bc4 BK118; have hcz22_5 := bc5 BK118; have hcz22_6 := bc6 BK118; have hfz22_0 := blk_frozen BK118.out 0; have hfz22_1 := blk_frozen BK118.out 1; have hfz22_2 := blk_frozen BK118.out 2; have hfz22_3 := blk_frozen BK118.out 3; have hfz22_4 := blk_frozen BK118.out 4; have hfz22_5 := blk_frozen BK118.out 5; have hfz22_6 := blk_frozen BK118.out 6) | (go_at_call 12; (with_reducible refine (hopmeshlaw14_short.calls a1_0 a1_1 a1_2 a1_3 a1_4 a1_5 a1_6 true _ A12.out).mono ?_); rintro e w23 ⟨rfl, hb⟩; have n0_ := bk_ BK118 hb; have n1_ := bk_ BK119 hb; have n2_ := Aside0.mk (below_step hb_ hb); clear BK118; clear BK119; clear HB; have BK118 := n0_; have BK119 := n1_; have HB := n2_; clear n0_ n1_ n2_; (try clear hb); (try clear hb2); (try clear hk); (try clear hi); have hcz24_0 := bc0 BK119; have hfz24_0 := blk_frozen BK119.out 0))
      go_meet
      case rel => exact ⟨_, (decide ((l0.length : Int) > 7)), rl_, H', ⟨by first | omega | exact Nat.le_refl _⟩, ⟨bj_ BK118⟩, ⟨bj_ BK119⟩, ⟨hb_⟩⟩
    ·
     replace c13 := Bool.eq_false_iff.mpr c13
     subst c13
     have H1 : (hopmeshlaw14_CompressShorter.j0 k l0 true a1_0 a1_1 a1_2 a1_3 a1_4 a1_5 a1_6 a2_0) = some r := by rw [if_neg (show ¬ (false = true) by decide)] at H; exact H
     clear H
     have H := H1
     clear H1
     have H' := Aside0.mk H
     clear H
     go_wp2_with (first | ((with_reducible refine gate_callee (f := 11) rfl ?_); refine goesL_ (some 16) rfl rfl Try.func11 (by kernel_rfl) rfl #[.slice A0 l0.length c0] rfl am_ ?_; (with_reducible refine (hopmeshlaw14_few.calls _ _ l0 true _ ?side1 ?side2 A10.out).mono ?_); (case side1 => repeat (first | exact (Kd.C_below HR0.out HB.out) | (with_reducible refine Kd.C_alloc ?_ _) | (with_reducible refine Kd.C_drewN ?_ _) | (with_reducible refine Kd.C_drew ?_))); (case side2 => exact HC0.out); rintro e w25 ⟨rfl, hb⟩; refine ⟨_, rfl, ?_⟩; have n0_ := bk_ BK118 hb; have n1_ := bk_ BK119 hb; have n2_ := Aside0.mk (below_step hb_ hb); clear BK118; clear BK119; clear HB; have BK118 := n0_; have BK119 := n1_; have HB := n2_; clear n0_ n1_ n2_; (try clear hb); (try clear hb2); (try clear hk); (try clear hi); have hnb26 := NB118_119.out; have hnc26 := NB119_118.out; have hcz27_0 := bc0 BK118; have hcz27_1 := bc1 BK118; have hcz27_2 := bc2 BK118; have hcz27_3 := bc3 BK118; have hcz27_4 := bc4 BK118; have hcz27_5 := bc5 BK118; have hcz27_6 := bc6 BK118; have hfz27_0 := blk_frozen BK118.out 0; have hfz27_1 := blk_frozen BK118.out 1; have hfz27_2 := blk_frozen BK118.out 2; have hfz27_3 := blk_frozen BK118.out 3; have hfz27_4 := blk_frozen BK118.out 4; have hfz27_5 := blk_frozen BK118.out 5; have hfz27_6 := blk_frozen BK118.out 6) | (go_at_call 12; (with_reducible refine (hopmeshlaw14_short.calls a1_0 a1_1 a1_2 a1_3 a1_4 a1_5 a1_6 false _ A12.out).mono ?_); rintro e w28 ⟨rfl, hb⟩; have n0_ := bk_ BK118 hb; have n1_ := bk_ BK119 hb; have n2_ := Aside0.mk (below_step hb_ hb); clear BK118; clear BK119; clear HB; have BK118 := n0_; have BK119 := n1_; have HB := n2_; clear n0_ n1_ n2_; (try clear hb); (try clear hb2); (try clear hk); (try clear hi)))
     go_meet
     case rel => exact ⟨_, (true), rl_, H', ⟨by first | omega | exact Nat.le_refl _⟩, ⟨bj_ BK118⟩, ⟨bj_ BK119⟩, ⟨hb_⟩⟩
   ·
    replace c11 := Bool.eq_false_iff.mpr c11
    subst c11
    have H1 : (hopmeshlaw14_CompressShorter.j0 k l0 true a1_0 a1_1 a1_2 a1_3 a1_4 a1_5 a1_6 a2_0) = some r := by rw [if_neg (show ¬ (false = true) by decide)] at H; exact H
    clear H
    have H := H1
    clear H1
    have H' := Aside0.mk H
    clear H
    go_wp2_with (first | ((with_reducible refine gate_callee (f := 11) rfl ?_); refine goesL_ (some 16) rfl rfl Try.func11 (by kernel_rfl) rfl #[.slice A0 l0.length c0] rfl am_ ?_; (with_reducible refine (hopmeshlaw14_few.calls _ _ l0 false _ ?side1 ?side2 A10.out).mono ?_); (case side1 => repeat (first | exact (Kd.C_below HR0.out HB.out) | (with_reducible refine Kd.C_alloc ?_ _) | (with_reducible refine Kd.C_drewN ?_ _) | (with_reducible refine Kd.C_drew ?_))); (case side2 => exact HC0.out); rintro e w29 ⟨rfl, hb⟩; refine ⟨_, rfl, ?_⟩; have n0_ := bk_ BK118 hb; have n1_ := bk_ BK119 hb; have n2_ := Aside0.mk (below_step hb_ hb); clear BK118; clear BK119; clear HB; have BK118 := n0_; have BK119 := n1_; have HB := n2_; clear n0_ n1_ n2_; (try clear hb); (try clear hb2); (try clear hk); (try clear hi)))
    go_meet
    case rel => exact ⟨_, (true), rl_, H', ⟨by first | omega | exact Nat.le_refl _⟩, ⟨bj_ BK118⟩, ⟨bj_ BK119⟩, ⟨hb_⟩⟩
  case rest =>
   clear HC6
   try clear c1; try clear c2; try clear p2; try clear c3; try clear c5; try clear c10; try clear c11; try clear c13; try clear c14; try clear c14b0; try clear c14b1; try clear c16; try clear c21; try clear c26; try clear hcz17_0; try clear hcz17_1; try clear hcz17_2; try clear hcz17_3; try clear hcz17_4; try clear hcz17_5; try clear hcz17_6; try clear hcz19_0; try clear hcz22_0; try clear hcz22_1; try clear hcz22_2; try clear hcz22_3; try clear hcz22_4; try clear hcz22_5; try clear hcz22_6; try clear hcz24_0; try clear hcz27_0; try clear hcz27_1; try clear hcz27_2; try clear hcz27_3; try clear hcz27_4; try clear hcz27_5; try clear hcz27_6; try clear hfz17_0; try clear hfz17_1; try clear hfz17_2; try clear hfz17_3; try clear hfz17_4; try clear hfz17_5; try clear hfz17_6; try clear hfz19_0; try clear hfz22_0; try clear hfz22_1; try clear hfz22_2; try clear hfz22_3; try clear hfz22_4; try clear hfz22_5; try clear hfz22_6; try clear hfz24_0; try clear hfz27_0; try clear hfz27_1; try clear hfz27_2; try clear hfz27_3; try clear hfz27_4; try clear hfz27_5; try clear hfz27_6
   (repeat clear BK118); (repeat clear BK119); (repeat clear HB)
   obtain ⟨kq, x33_5, rfl, HA, HJ5, BK118, BK119, HB⟩ := hcut
   cases kq with
   | zero => exact absurd HA.out (by simp [hopmeshlaw14_CompressShorter.j0])
   | succ kj5 =>
    have H := HA.out
    clear HA
    simp only [hopmeshlaw14_CompressShorter.j0] at H
    by_cases c30 : x33_5 = true
    ·
     subst c30
     have H1 : (some true) = some r := by rw [if_pos rfl] at H; exact H
     clear H
     have H := H1
     clear H1
     obtain rfl := Option.some.inj H
     go_wp2
     go_ret
     exact ⟨er_, hb_⟩
    ·
     replace c30 := Bool.eq_false_iff.mpr c30
     subst c30
     have H1 : ((api_Context.f l0).bind fun t123 => ((compress_Bits.f t123 a1_0 a1_1 a1_2 a1_3 a1_4 a1_5 a1_6).bind fun bt126 => ((api_Context.f l0).bind fun t128 => ((some (([(⟨a2_0⟩ : S26)] : List (S26)) : List (S26))).bind fun y131 => (if t128.length + y131.length < 8796093022208 then ((compress_Bits.f (t128 ++ y131) a1_0 a1_1 a1_2 a1_3 a1_4 a1_5 a1_6).bind fun bt137 => ((compress_Bits.f ([] : List (S26)) a1_0 a1_1 a1_2 a1_3 a1_4 a1_5 a1_6).bind fun bt139 => (if bt126.2 = 0 then (if bt137.2 = 0 then (hopmeshlaw14_CompressShorter.j1 kj5 bt126.1 bt137.1 bt139.1 (bt139.2 != 0)) else (hopmeshlaw14_CompressShorter.j1 kj5 bt126.1 bt137.1 bt139.1 true)) else (hopmeshlaw14_CompressShorter.j1 kj5 bt126.1 bt137.1 bt139.1 true)))) else (none)))))) = some r := by rw [if_neg (show ¬ (false = true) by decide)] at H; exact H
     clear H
     have H := H1
     clear H1
     replace H := Option.bind_eq_some_iff.mp H
     obtain ⟨t123, A310, H⟩ := H
     replace H : ((compress_Bits.f t123 a1_0 a1_1 a1_2 a1_3 a1_4 a1_5 a1_6).bind fun bt126 => ((api_Context.f l0).bind fun t128 => ((some (([(⟨a2_0⟩ : S26)] : List (S26)) : List (S26))).bind fun y131 => (if t128.length + y131.length < 8796093022208 then ((compress_Bits.f (t128 ++ y131) a1_0 a1_1 a1_2 a1_3 a1_4 a1_5 a1_6).bind fun bt137 => ((compress_Bits.f ([] : List (S26)) a1_0 a1_1 a1_2 a1_3 a1_4 a1_5 a1_6).bind fun bt139 => (if bt126.2 = 0 then (if bt137.2 = 0 then (hopmeshlaw14_CompressShorter.j1 kj5 bt126.1 bt137.1 bt139.1 (bt139.2 != 0)) else (hopmeshlaw14_CompressShorter.j1 kj5 bt126.1 bt137.1 bt139.1 true)) else (hopmeshlaw14_CompressShorter.j1 kj5 bt126.1 bt137.1 bt139.1 true)))) else (none))))) = some r := H
     have A31 := Aside0.mk A310
     clear A310
     replace H := Option.bind_eq_some_iff.mp H
     obtain ⟨⟨t126, t127⟩, A320, H⟩ := H
     replace H : ((api_Context.f l0).bind fun t128 => ((some (([(⟨a2_0⟩ : S26)] : List (S26)) : List (S26))).bind fun y131 => (if t128.length + y131.length < 8796093022208 then ((compress_Bits.f (t128 ++ y131) a1_0 a1_1 a1_2 a1_3 a1_4 a1_5 a1_6).bind fun bt137 => ((compress_Bits.f ([] : List (S26)) a1_0 a1_1 a1_2 a1_3 a1_4 a1_5 a1_6).bind fun bt139 => (if t127 = 0 then (if bt137.2 = 0 then (hopmeshlaw14_CompressShorter.j1 kj5 t126 bt137.1 bt139.1 (bt139.2 != 0)) else (hopmeshlaw14_CompressShorter.j1 kj5 t126 bt137.1 bt139.1 true)) else (hopmeshlaw14_CompressShorter.j1 kj5 t126 bt137.1 bt139.1 true)))) else (none)))) = some r := H
     have A32 := Aside0.mk A320
     clear A320
     replace H := Option.bind_eq_some_iff.mp H
     obtain ⟨t128, A330, H⟩ := H
     replace H : ((some (([(⟨a2_0⟩ : S26)] : List (S26)) : List (S26))).bind fun y131 => (if t128.length + y131.length < 8796093022208 then ((compress_Bits.f (t128 ++ y131) a1_0 a1_1 a1_2 a1_3 a1_4 a1_5 a1_6).bind fun bt137 => ((compress_Bits.f ([] : List (S26)) a1_0 a1_1 a1_2 a1_3 a1_4 a1_5 a1_6).bind fun bt139 => (if t127 = 0 then (if bt137.2 = 0 then (hopmeshlaw14_CompressShorter.j1 kj5 t126 bt137.1 bt139.1 (bt139.2 != 0)) else (hopmeshlaw14_CompressShorter.j1 kj5 t126 bt137.1 bt139.1 true)) else (hopmeshlaw14_CompressShorter.j1 kj5 t126 bt137.1 bt139.1 true)))) else (none))) = some r := H
     have A33 := Aside0.mk A330
     clear A330
     obtain ⟨y131, hy131⟩ : ∃ y_ : List (S26), y_ = (([(⟨a2_0⟩ : S26)] : List (S26))) := ⟨_, rfl⟩
     replace H : (if t128.length + y131.length < 8796093022208 then ((compress_Bits.f (t128 ++ y131) a1_0 a1_1 a1_2 a1_3 a1_4 a1_5 a1_6).bind fun bt137 => ((compress_Bits.f ([] : List (S26)) a1_0 a1_1 a1_2 a1_3 a1_4 a1_5 a1_6).bind fun bt139 => (if t127 = 0 then (if bt137.2 = 0 then (hopmeshlaw14_CompressShorter.j1 kj5 t126 bt137.1 bt139.1 (bt139.2 != 0)) else (hopmeshlaw14_CompressShorter.j1 kj5 t126 bt137.1 bt139.1 true)) else (hopmeshlaw14_CompressShorter.j1 kj5 t126 bt137.1 bt139.1 true)))) else (none)) = some r := by first | (rw [hy131]; with_reducible exact H) | (have H2_ := (Option.bind_some _ _).symm.trans H; rw [hy131]; with_reducible exact H2_) | (have H2_ := (Option.bind_some _ _).symm.trans H; with_reducible exact H2_) | with_reducible exact H | (rw [hy131]; exact H) | exact H
     have Ny131 := Aside0.mk hy131
     clear hy131
     by_cases c34 : t128.length + y131.length < 8796093022208
     ·
      rw [if_pos c34] at H
      have LMc34 := Aside0.mk c34
      clear c34
      obtain ⟨y134, hy134⟩ : ∃ y_ : List (S26), y_ = (t128 ++ y131) := ⟨_, rfl⟩
      replace H : ((compress_Bits.f y134 a1_0 a1_1 a1_2 a1_3 a1_4 a1_5 a1_6).bind fun bt137 => ((compress_Bits.f ([] : List (S26)) a1_0 a1_1 a1_2 a1_3 a1_4 a1_5 a1_6).bind fun bt139 => (if t127 = 0 then (if bt137.2 = 0 then (hopmeshlaw14_CompressShorter.j1 kj5 t126 bt137.1 bt139.1 (bt139.2 != 0)) else (hopmeshlaw14_CompressShorter.j1 kj5 t126 bt137.1 bt139.1 true)) else (hopmeshlaw14_CompressShorter.j1 kj5 t126 bt137.1 bt139.1 true)))) = some r := by first | (rw [hy134]; with_reducible exact H) | (have H2_ := (Option.bind_some _ _).symm.trans H; rw [hy134]; with_reducible exact H2_) | (have H2_ := (Option.bind_some _ _).symm.trans H; with_reducible exact H2_) | with_reducible exact H | (rw [hy134]; exact H) | exact H
      have Ny134 := Aside0.mk hy134
      clear hy134
      replace H := Option.bind_eq_some_iff.mp H
      obtain ⟨⟨t137, t138⟩, A350, H⟩ := H
      replace H : ((compress_Bits.f ([] : List (S26)) a1_0 a1_1 a1_2 a1_3 a1_4 a1_5 a1_6).bind fun bt139 => (if t127 = 0 then (if t138 = 0 then (hopmeshlaw14_CompressShorter.j1 kj5 t126 t137 bt139.1 (bt139.2 != 0)) else (hopmeshlaw14_CompressShorter.j1 kj5 t126 t137 bt139.1 true)) else (hopmeshlaw14_CompressShorter.j1 kj5 t126 t137 bt139.1 true))) = some r := H
      have A35 := Aside0.mk A350
      clear A350
      replace H := Option.bind_eq_some_iff.mp H
      obtain ⟨⟨t139, t140⟩, A360, H⟩ := H
      replace H : (if t127 = 0 then (if t138 = 0 then (hopmeshlaw14_CompressShorter.j1 kj5 t126 t137 t139 (t140 != 0)) else (hopmeshlaw14_CompressShorter.j1 kj5 t126 t137 t139 true)) else (hopmeshlaw14_CompressShorter.j1 kj5 t126 t137 t139 true)) = some r := H
      have A36 := Aside0.mk A360
      clear A360
      have HC37 := Aside0.mk H
      clear H
      try go_wp2
      have n0_ := Aside0.mk (blk_drew BK118.out)
      have n1_ := Aside0.mk (blk_drew BK119.out)
      have n2_ := Aside0.mk (below_drew1 HB.out)
      clear BK118
      clear BK119
      clear HB
      have BK118 := n0_
      have BK119 := n1_
      have HB := n2_
      clear n0_ n1_ n2_
      refine start_ (n := 9) (S := fun w' => w'.cell? ⟨gb118, 0, none⟩ = some (.int .i64 a1_0) ∧ w'.cell? ⟨gb118, 1, none⟩ = some (.int .i64 a1_1) ∧ w'.cell? ⟨gb118, 2, none⟩ = some (.string a1_2) ∧ w'.cell? ⟨gb118, 3, none⟩ = some (.string a1_3) ∧ w'.cell? ⟨gb118, 4, none⟩ = some (.int .i64 a1_4) ∧ w'.cell? ⟨gb118, 5, none⟩ = some (.int .i64 a1_5) ∧ w'.cell? ⟨gb118, 6, none⟩ = some (.int .i64 a1_6)) (ds := []) #[false, false, false, false, false, false, false, false, false] (by kernel_rfl) rfl rfl ⟨(blk_cell BK118.out 0).trans rfl, (blk_cell BK118.out 1).trans rfl, (blk_cell BK118.out 2).trans rfl, (blk_cell BK118.out 3).trans rfl, (blk_cell BK118.out 4).trans rfl, (blk_cell BK118.out 5).trans rfl, (blk_cell BK118.out 6).trans rfl⟩ (fun hHeld => ?_); refine with_tabW hopmeshlaw14_CompressShorter.tab5 hopmeshlaw14_CompressShorter.bits5 (fun HT_ HW_ => ?_)
      generalize wc.drew = w38 at BK118 BK119 HB hHeld ⊢
      refine pu_ HT_ 0 35 (bl 9 1) ?_
      refine tk_ HT_ HW_ hHeld 2 37 (bl 9 5) ?_
      refine one_ (i := 1) (N := some 36) (bl 9 7) rfl rfl (one_of HT_.out (by kernel_rfl)) (by decide) (fun K hK => ?_)
      refine goes_ Try.func14 (by kernel_rfl) rfl #[.slice A0 l0.length c0] (by rfl) rfl rfl am_ ?_
      with_reducible refine (api_Context.calls _ _ l0 t123 _ ?side1 ?side2 A31.out).mono ?_
      (case side1 => repeat (first | exact (Kd.C_below HR0.out HB.out) | (with_reducible refine Kd.C_alloc ?_ _) | (with_reducible refine Kd.C_drewN ?_ _) | (with_reducible refine Kd.C_drew ?_)))
      (case side2 => exact HC0.out)
      rintro e w39 ⟨v124, rfl, ho0, hb⟩
      refine ⟨_, rfl, ?_⟩
      have n0_ := Aside0.mk (Kd.R_lower (Kd.R_newB ho0 (bj_ BK119)) (below_size hb_))
      have n1_ := bk_ BK118 hb
      have n2_ := bk_ BK119 hb
      have n3_ := Aside0.mk (below_step hb_ hb)
      clear BK118
      clear BK119
      clear HB
      have HO125 := n0_
      have BK118 := n1_
      have BK119 := n2_
      have HB := n3_
      clear n0_ n1_ n2_ n3_
      (try clear hb)
      (try clear hb2)
      (try clear hk)
      (try clear hi)
      (try clear ho0)
      obtain ⟨Ao40, co40, eo40⟩ := Kd.R_slice HO125.out
      (first | subst eo40 | (injection eo40 with f1_ f2_ f3_; have f4_ := f1_.symm; have f5_ := f3_.symm; clear f1_ f2_ f3_; subst f4_; subst f5_))
      refine hK.out _ _ ⟨(blk_cell BK118.out 0).trans rfl, (blk_cell BK118.out 1).trans rfl, (blk_cell BK118.out 2).trans rfl, (blk_cell BK118.out 3).trans rfl, (blk_cell BK118.out 4).trans rfl, (blk_cell BK118.out 5).trans rfl, (blk_cell BK118.out 6).trans rfl⟩ (fun hHeld => ?_)
      clear hK K
      refine norm_ (a' := ?_) ?_ ?_
      rotate_left
      ·
       show Act.put _ (some 36) _ = _
       simp only [ap_, s0_, s1_, i64_w]
       rfl
      refine one_ (i := 3) (N := some 38) (bl 9 15) rfl rfl (one_of HT_.out (by kernel_rfl)) (by decide) (fun K hK => ?_)
      refine goes_ Try.func13 (by kernel_rfl) rfl #[.slice Ao40 t123.length co40, .agg #[.int .i64 a1_0, .int .i64 a1_1, .string a1_2, .string a1_3, .int .i64 a1_4, .int .i64 a1_5, .int .i64 a1_6]] (by rfl) rfl rfl am_ ?_
      with_reducible refine (compress_Bits.calls _ _ t123 a1_0 a1_1 a1_2 a1_3 a1_4 a1_5 a1_6 t126 t127 _ ?side1 ?side2 A32.out).mono ?_
      (case side1 => repeat (first | exact (Kd.R_reads' HO125.out).2.2 | (with_reducible refine Kd.C_alloc ?_ _) | (with_reducible refine Kd.C_drewN ?_ _) | (with_reducible refine Kd.C_drew ?_)))
      (case side2 => exact (Kd.R_reads' HO125.out).2.1)
      rintro e w41 ⟨rfl, hb⟩
      refine ⟨_, rfl, ?_⟩
      have n0_ := Aside0.mk (Kd.R_below (kr_ HO125) hb)
      have n1_ := bk_ BK118 hb
      have n2_ := bk_ BK119 hb
      have n3_ := Aside0.mk (below_step hb_ hb)
      clear HO125
      clear BK118
      clear BK119
      clear HB
      have HO125 := n0_
      have BK118 := n1_
      have BK119 := n2_
      have HB := n3_
      clear n0_ n1_ n2_ n3_
      (try clear hb)
      (try clear hb2)
      (try clear hk)
      (try clear hi)
      refine hK.out _ _ ⟨(blk_cell BK118.out 0).trans rfl, (blk_cell BK118.out 1).trans rfl, (blk_cell BK118.out 2).trans rfl, (blk_cell BK118.out 3).trans rfl, (blk_cell BK118.out 4).trans rfl, (blk_cell BK118.out 5).trans rfl, (blk_cell BK118.out 6).trans rfl⟩ (fun hHeld => ?_)
      clear hK K
      refine norm_ (a' := ?_) ?_ ?_
      rotate_left
      ·
       show Act.put _ (some 38) _ = _
       simp only [ap_, s0_, s1_, i64_w]
       rfl
      refine pu_ HT_ 4 34 (bl 9 31) ?_
      refine pu_ HT_ 5 39 (bl 9 63) ?_
      refine pu_ HT_ 6 40 (bl 9 127) ?_
      refine pu_ HT_ 7 7 (bl 9 255) ?_
      refine pu_ HT_ 8 8 (bl 9 511) ?_
      refine done_ (done_of HT_.out (by kernel_rfl)) ?_
      try go_wp2
      have n0_ := Aside0.mk (Kd.R_drew HO125.out)
      have n1_ := Aside0.mk (blk_drew BK118.out)
      have n2_ := Aside0.mk (blk_drew BK119.out)
      have n3_ := Aside0.mk (below_drew1 HB.out)
      clear HO125
      clear BK118
      clear BK119
      clear HB
      have HO125 := n0_
      have BK118 := n1_
      have BK119 := n2_
      have HB := n3_
      clear n0_ n1_ n2_ n3_
      refine start_ (n := 12) (S := fun w' => w'.cell? ⟨gb119, 0, none⟩ = some (.string a2_0) ∧ w'.cell? ⟨gb118, 0, none⟩ = some (.int .i64 a1_0) ∧ w'.cell? ⟨gb118, 1, none⟩ = some (.int .i64 a1_1) ∧ w'.cell? ⟨gb118, 2, none⟩ = some (.string a1_2) ∧ w'.cell? ⟨gb118, 3, none⟩ = some (.string a1_3) ∧ w'.cell? ⟨gb118, 4, none⟩ = some (.int .i64 a1_4) ∧ w'.cell? ⟨gb118, 5, none⟩ = some (.int .i64 a1_5) ∧ w'.cell? ⟨gb118, 6, none⟩ = some (.int .i64 a1_6)) (ds := []) #[false, false, false, false, false, false, false, false, false, false, false, false] (by kernel_rfl) rfl rfl ⟨(blk_cell BK119.out 0).trans rfl, (blk_cell BK118.out 0).trans rfl, (blk_cell BK118.out 1).trans rfl, (blk_cell BK118.out 2).trans rfl, (blk_cell BK118.out 3).trans rfl, (blk_cell BK118.out 4).trans rfl, (blk_cell BK118.out 5).trans rfl, (blk_cell BK118.out 6).trans rfl⟩ (fun hHeld => ?_); refine with_tabW hopmeshlaw14_CompressShorter.tab6 hopmeshlaw14_CompressShorter.bits6 (fun HT_ HW_ => ?_)
      generalize w41.drew = w42 at HO125 BK118 BK119 HB hHeld ⊢
      refine pu_ HT_ 0 42 (bl 12 1) ?_
      refine tk_ HT_ HW_ hHeld 2 44 (bl 12 5) ?_
      refine tk_ HT_ HW_ hHeld 5 47 (bl 12 37) ?_
      refine join_ (σ := Value × Value) 7 (bl 12 47) (fun s_ => [(43, s_.1), (45, s_.2)]) (fun s_ w' => (w'.cell? ⟨gb119, 0, none⟩ = some (.string a2_0) ∧ w'.cell? ⟨gb118, 0, none⟩ = some (.int .i64 a1_0) ∧ w'.cell? ⟨gb118, 1, none⟩ = some (.int .i64 a1_1) ∧ w'.cell? ⟨gb118, 2, none⟩ = some (.string a1_2) ∧ w'.cell? ⟨gb118, 3, none⟩ = some (.string a1_3) ∧ w'.cell? ⟨gb118, 4, none⟩ = some (.int .i64 a1_4) ∧ w'.cell? ⟨gb118, 5, none⟩ = some (.int .i64 a1_5) ∧ w'.cell? ⟨gb118, 6, none⟩ = some (.int .i64 a1_6)) ∧ (Kd.R k26 26 w' w.heap.size (fun k_ => some k_ ≠ (s_.1 : Value).ownBlock ∧ some k_ ≠ (s_.2 : Value).ownBlock ∧ k_ ≠ gb119) (.slice Ao40 t123.length co40) t123) ∧ (Kd.R k26 26 w' w.heap.size (fun k_ => some k_ ≠ (.slice Ao40 t123.length co40 : Value).ownBlock ∧ some k_ ≠ (s_.2 : Value).ownBlock ∧ k_ ≠ gb119) s_.1 t128) ∧ (Kd.R k26 26 w' w.heap.size (fun k_ => some k_ ≠ (.slice Ao40 t123.length co40 : Value).ownBlock ∧ some k_ ≠ (s_.1 : Value).ownBlock ∧ k_ ≠ gb119) s_.2 y131) ∧ (w'.heap[gb118]? = some (.cells #[.int .i64 a1_0, .int .i64 a1_1, .string a1_2, .string a1_3, .int .i64 a1_4, .int .i64 a1_5, .int .i64 a1_6] 24 (0, 0))) ∧ (w'.heap[gb119]? = some (.cells #[.string a2_0] 26 (0, 0))) ∧ (Below w.heap.size w w')) ?_ ?_
      rotate_left
      ·
       intro hCont
       refine two_ (i := 1) (j := 3) (Ni := some 43) (Nj := some 45) (bl 12 39) (bl 12 45) rfl rfl rfl rfl (two_of HT_.out (by kernel_rfl)) (by decide) (by decide) (fun K hK => ?_) (fun K hK => ?_)
       ·
        skip
        refine goes_ Try.func14 (by kernel_rfl) rfl #[.slice A0 l0.length c0] (by rfl) rfl rfl am_ ?_
        with_reducible refine (api_Context.calls _ _ l0 t128 _ ?side1 ?side2 A33.out).mono ?_
        (case side1 => repeat (first | exact (Kd.C_below HR0.out HB.out) | (with_reducible refine Kd.C_alloc ?_ _) | (with_reducible refine Kd.C_drewN ?_ _) | (with_reducible refine Kd.C_drew ?_)))
        (case side2 => exact HC0.out)
        rintro e w43 ⟨v129, rfl, ho0, hb⟩
        refine ⟨_, rfl, ?_⟩
        have n0_ := Aside0.mk (Kd.R_elder' (kr_ HO125) (Kd.R_base ho0) hb)
        have n1_ := Aside0.mk (Kd.R_lower (Kd.R_newB (Kd.R_new' ho0 (Kd.R_lt (kr_ HO125))) (bj_ BK119)) (below_size hb_))
        have n2_ := bk_ BK118 hb
        have n3_ := bk_ BK119 hb
        have n4_ := Aside0.mk (below_step hb_ hb)
        clear HO125
        clear BK118
        clear BK119
        clear HB
        have HO125 := n0_
        have HO130 := n1_
        have BK118 := n2_
        have BK119 := n3_
        have HB := n4_
        clear n0_ n1_ n2_ n3_ n4_
        (try clear hb)
        (try clear hb2)
        (try clear hk)
        (try clear hi)
        (try clear ho0)
        refine hK.out _ _ ⟨(blk_cell BK119.out 0).trans rfl, (blk_cell BK118.out 0).trans rfl, (blk_cell BK118.out 1).trans rfl, (blk_cell BK118.out 2).trans rfl, (blk_cell BK118.out 3).trans rfl, (blk_cell BK118.out 4).trans rfl, (blk_cell BK118.out 5).trans rfl, (blk_cell BK118.out 6).trans rfl⟩ (fun hHeld => ?_)
        clear hK K
        refine norm_ (a' := ?_) ?_ ?_
        rotate_left
        ·
         show Act.put _ (some 43) _ = _
         simp only [ap_, s0_, s1_, i64_w]
         rfl
        refine one_ (i := 3) (N := some 45) (bl 12 47) rfl rfl (one_of HT_.out (by kernel_rfl)) (by decide) (fun K hK => ?_)
        refine Kd.R_lit_step k26 _ 26 ?hg (N := 45) ?hd (xs := ([(⟨a2_0⟩ : S26)] : List (S26))) (inner := [.string a2_0]) (ok := fun _ => True) (okp := fun _ => True) ?hr ?hp (fun _ hk => hk) trivial (Below.refl _ _) (Nat.le_refl _) (by simp) ?_; (case hd => rfl); (case hg => rfl); (case hr => first | (go_simp; done) | (go_simp; rfl)); (case hp => exact (Reps.one (show Kd.M k26 _ _ _ (⟨a2_0⟩ : S26) [.string a2_0] from (k26_mkM _ _ _ (⟨a2_0⟩ : S26) )) (Reps.none _ _)))
        intro v132 w44 ho45 hb hg_ hnew_
        clear hg_ hnew_
        (first | rw [← Ny131.out] at ho45 | (simp only [Int.reduceToNat] at ho45; rw [← Ny131.out] at ho45))
        have n0_ := Aside0.mk (Kd.R_elder' (kr_ HO125) (Kd.R_base ho45) hb)
        have n1_ := Aside0.mk (Kd.R_elder' (kr_ HO130) (Kd.R_base ho45) hb)
        have n2_ := Aside0.mk (Kd.R_lower (Kd.R_newB (Kd.R_new' (Kd.R_new' ho45 (Kd.R_lt (kr_ HO125))) (Kd.R_lt (kr_ HO130))) (bj_ BK119)) (below_size hb_))
        have n3_ := bk_ BK118 hb
        have n4_ := bk_ BK119 hb
        have n5_ := Aside0.mk (below_step hb_ hb)
        clear HO125
        clear HO130
        clear BK118
        clear BK119
        clear HB
        have HO125 := n0_
        have HO130 := n1_
        have HO133 := n2_
        have BK118 := n3_
        have BK119 := n4_
        have HB := n5_
        clear n0_ n1_ n2_ n3_ n4_ n5_
        clear hb ho45
        refine hK.out _ _ ⟨(blk_cell BK119.out 0).trans rfl, (blk_cell BK118.out 0).trans rfl, (blk_cell BK118.out 1).trans rfl, (blk_cell BK118.out 2).trans rfl, (blk_cell BK118.out 3).trans rfl, (blk_cell BK118.out 4).trans rfl, (blk_cell BK118.out 5).trans rfl, (blk_cell BK118.out 6).trans rfl⟩ (fun hHeld => ?_)
        clear hK K
        refine norm_ (a' := ?_) ?_ ?_
        rotate_left
        ·
         show Act.put _ (some 45) _ = _
         simp only [ap_, s0_, s1_, i64_w]
         rfl
        exact norm_ (by simp only [putAll, Act.put, List.setIfInBounds_toArray, List.set_cons_zero, List.set_cons_succ]) (hCont (v129, v132) _ ⟨hHeld, (by (with_reducible repeat (first | apply Kd.R_alloc | apply Kd.R_drewN | apply Kd.R_drew)); exact Kd.R_mono HO125.out (fun _ hk => ⟨hk.1.2, ⟨hk.2, hk.1.1.2⟩⟩)), (by (with_reducible repeat (first | apply Kd.R_alloc | apply Kd.R_drewN | apply Kd.R_drew)); exact Kd.R_mono HO130.out (fun _ hk => ⟨hk.1.1.2, ⟨hk.2, hk.1.2⟩⟩)), (by (with_reducible repeat (first | apply Kd.R_alloc | apply Kd.R_drewN | apply Kd.R_drew)); exact Kd.R_mono HO133.out (fun _ hk => ⟨hk.1.1.2, ⟨hk.1.2, hk.2⟩⟩)), (bj_ BK118), (bj_ BK119), hb_⟩)
       ·
        skip
        refine Kd.R_lit_step k26 _ 26 ?hg (N := 45) ?hd (xs := ([(⟨a2_0⟩ : S26)] : List (S26))) (inner := [.string a2_0]) (ok := fun _ => True) (okp := fun _ => True) ?hr ?hp (fun _ hk => hk) trivial (Below.refl _ _) (Nat.le_refl _) (by simp) ?_; (case hd => rfl); (case hg => rfl); (case hr => first | (go_simp; done) | (go_simp; rfl)); (case hp => exact (Reps.one (show Kd.M k26 _ _ _ (⟨a2_0⟩ : S26) [.string a2_0] from (k26_mkM _ _ _ (⟨a2_0⟩ : S26) )) (Reps.none _ _)))
        intro v132 w43 ho44 hb hg_ hnew_
        clear hg_ hnew_
        (first | rw [← Ny131.out] at ho44 | (simp only [Int.reduceToNat] at ho44; rw [← Ny131.out] at ho44))
        have n0_ := Aside0.mk (Kd.R_elder' (kr_ HO125) (Kd.R_base ho44) hb)
        have n1_ := Aside0.mk (Kd.R_lower (Kd.R_newB (Kd.R_new' ho44 (Kd.R_lt (kr_ HO125))) (bj_ BK119)) (below_size hb_))
        have n2_ := bk_ BK118 hb
        have n3_ := bk_ BK119 hb
        have n4_ := Aside0.mk (below_step hb_ hb)
        clear HO125
        clear BK118
        clear BK119
        clear HB
        have HO125 := n0_
        have HO133 := n1_
        have BK118 := n2_
        have BK119 := n3_
        have HB := n4_
        clear n0_ n1_ n2_ n3_ n4_
        clear hb ho44
        refine hK.out _ _ ⟨(blk_cell BK119.out 0).trans rfl, (blk_cell BK118.out 0).trans rfl, (blk_cell BK118.out 1).trans rfl, (blk_cell BK118.out 2).trans rfl, (blk_cell BK118.out 3).trans rfl, (blk_cell BK118.out 4).trans rfl, (blk_cell BK118.out 5).trans rfl, (blk_cell BK118.out 6).trans rfl⟩ (fun hHeld => ?_)
        clear hK K
        refine norm_ (a' := ?_) ?_ ?_
        rotate_left
        ·
         show Act.put _ (some 45) _ = _
         simp only [ap_, s0_, s1_, i64_w]
         rfl
        refine one_ (i := 1) (N := some 43) (bl 12 47) rfl rfl (one_of HT_.out (by kernel_rfl)) (by decide) (fun K hK => ?_)
        refine goes_ Try.func14 (by kernel_rfl) rfl #[.slice A0 l0.length c0] (by rfl) rfl rfl am_ ?_
        with_reducible refine (api_Context.calls _ _ l0 t128 _ ?side1 ?side2 A33.out).mono ?_
        (case side1 => repeat (first | exact (Kd.C_below HR0.out HB.out) | (with_reducible refine Kd.C_alloc ?_ _) | (with_reducible refine Kd.C_drewN ?_ _) | (with_reducible refine Kd.C_drew ?_)))
        (case side2 => exact HC0.out)
        rintro e w45 ⟨v129, rfl, ho0, hb⟩
        refine ⟨_, rfl, ?_⟩
        have n0_ := Aside0.mk (Kd.R_elder' (kr_ HO125) (Kd.R_base ho0) hb)
        have n1_ := Aside0.mk (Kd.R_elder' (kr_ HO133) (Kd.R_base ho0) hb)
        have n2_ := Aside0.mk (Kd.R_lower (Kd.R_newB (Kd.R_new' (Kd.R_new' ho0 (Kd.R_lt (kr_ HO125))) (Kd.R_lt (kr_ HO133))) (bj_ BK119)) (below_size hb_))
        have n3_ := bk_ BK118 hb
        have n4_ := bk_ BK119 hb
        have n5_ := Aside0.mk (below_step hb_ hb)
        clear HO125
        clear HO133
        clear BK118
        clear BK119
        clear HB
        have HO125 := n0_
        have HO133 := n1_
        have HO130 := n2_
        have BK118 := n3_
        have BK119 := n4_
        have HB := n5_
        clear n0_ n1_ n2_ n3_ n4_ n5_
        (try clear hb)
        (try clear hb2)
        (try clear hk)
        (try clear hi)
        (try clear ho0)
        refine hK.out _ _ ⟨(blk_cell BK119.out 0).trans rfl, (blk_cell BK118.out 0).trans rfl, (blk_cell BK118.out 1).trans rfl, (blk_cell BK118.out 2).trans rfl, (blk_cell BK118.out 3).trans rfl, (blk_cell BK118.out 4).trans rfl, (blk_cell BK118.out 5).trans rfl, (blk_cell BK118.out 6).trans rfl⟩ (fun hHeld => ?_)
        clear hK K
        refine norm_ (a' := ?_) ?_ ?_
        rotate_left
        ·
         show Act.put _ (some 43) _ = _
         simp only [ap_, s0_, s1_, i64_w]
         rfl
        exact norm_ (by simp only [putAll, Act.put, List.setIfInBounds_toArray, List.set_cons_zero, List.set_cons_succ]) (hCont (v129, v132) _ ⟨hHeld, (by (with_reducible repeat (first | apply Kd.R_alloc | apply Kd.R_drewN | apply Kd.R_drew)); exact Kd.R_mono HO125.out (fun _ hk => ⟨hk.2, ⟨hk.1.2, hk.1.1.2⟩⟩)), (by (with_reducible repeat (first | apply Kd.R_alloc | apply Kd.R_drewN | apply Kd.R_drew)); exact Kd.R_mono HO130.out (fun _ hk => ⟨hk.1.1.2, ⟨hk.1.2, hk.2⟩⟩)), (by (with_reducible repeat (first | apply Kd.R_alloc | apply Kd.R_drewN | apply Kd.R_drew)); exact Kd.R_mono HO133.out (fun _ hk => ⟨hk.1.1.2, ⟨hk.2, hk.1.2⟩⟩)), (bj_ BK118), (bj_ BK119), hb_⟩)
      rintro ⟨v129, v132⟩ w46 ⟨hS_, h0_, h1_, h2_, h3_, h4_, h5_⟩
      have n0_ : Aside0 (Kd.R k26 26 w46 w.heap.size (fun k_ => some k_ ≠ (v129 : Value).ownBlock ∧ some k_ ≠ (v132 : Value).ownBlock ∧ k_ ≠ gb119) (.slice Ao40 t123.length co40) t123) := ⟨h0_⟩
      have n1_ : Aside0 (Kd.R k26 26 w46 w.heap.size (fun k_ => some k_ ≠ (.slice Ao40 t123.length co40 : Value).ownBlock ∧ some k_ ≠ (v132 : Value).ownBlock ∧ k_ ≠ gb119) v129 t128) := ⟨h1_⟩
      have n2_ : Aside0 (Kd.R k26 26 w46 w.heap.size (fun k_ => some k_ ≠ (.slice Ao40 t123.length co40 : Value).ownBlock ∧ some k_ ≠ (v129 : Value).ownBlock ∧ k_ ≠ gb119) v132 y131) := ⟨h2_⟩
      have n3_ : Aside0 (w46.heap[gb118]? = some (.cells #[.int .i64 a1_0, .int .i64 a1_1, .string a1_2, .string a1_3, .int .i64 a1_4, .int .i64 a1_5, .int .i64 a1_6] 24 (0, 0))) := ⟨h3_⟩
      have n4_ : Aside0 (w46.heap[gb119]? = some (.cells #[.string a2_0] 26 (0, 0))) := ⟨h4_⟩
      have n5_ : Aside0 (Below w.heap.size w w46) := ⟨h5_⟩
      clear HO125
      clear BK118
      clear BK119
      clear HB
      clear h0_ h1_ h2_ h3_ h4_ h5_
      have HO125 := n0_
      have HO130 := n1_
      have HO133 := n2_
      have BK118 := n3_
      have BK119 := n4_
      have HB := n5_
      clear n0_ n1_ n2_ n3_ n4_ n5_
      have hHeld : w46.cell? ⟨gb119, 0, none⟩ = some (.string a2_0) ∧ w46.cell? ⟨gb118, 0, none⟩ = some (.int .i64 a1_0) ∧ w46.cell? ⟨gb118, 1, none⟩ = some (.int .i64 a1_1) ∧ w46.cell? ⟨gb118, 2, none⟩ = some (.string a1_2) ∧ w46.cell? ⟨gb118, 3, none⟩ = some (.string a1_3) ∧ w46.cell? ⟨gb118, 4, none⟩ = some (.int .i64 a1_4) ∧ w46.cell? ⟨gb118, 5, none⟩ = some (.int .i64 a1_5) ∧ w46.cell? ⟨gb118, 6, none⟩ = some (.int .i64 a1_6) := hS_
      obtain ⟨Ao48, co48, eo48⟩ := Kd.R_slice HO133.out
      (first | subst eo48 | (injection eo48 with f1_ f2_ f3_; have f4_ := f1_.symm; have f5_ := f3_.symm; clear f1_ f2_ f3_; subst f4_; subst f5_))
      refine norm_ (a' := ?_) ?_ ?_
      rotate_left
      ·
       simp only [putAll, Act.put, List.setIfInBounds_toArray, List.set_cons_zero, List.set_cons_succ]
       rfl
      refine one_ (i := 4) (N := some 46) (bl 12 63) rfl rfl (one_of HT_.out (by kernel_rfl)) (by decide) (fun K hK => ?_)
      refine Kd.R_append_rows_step k26 (w0 := w) w.heap.size (by rfl) (.tmp 43) (.tmp 45) 22 26 (.agg #[(.string ⟨#[]⟩)]) 16 rfl Try.underlying22 info26 rfl (by decide) (by omega) v129 t128 y131 _ _ _ (fun k_ => some k_ ≠ (.slice Ao40 t123.length co40 : Value).ownBlock ∧ some k_ ≠ (.slice Ao48 y131.length co48 : Value).ownBlock ∧ k_ ≠ gb119) (fun _ => False) rfl rfl ?aO ?aR (fun _ _ h => h) (fun _ h => h.elim) ?aF ?aB ?aS ?aL ?_
      (case aR => repeat (first | exact (Kd.R_reads' HO133.out).2.2 | (with_reducible refine Kd.C_alloc ?_ _) | (with_reducible refine Kd.C_drewN ?_ _) | (with_reducible refine Kd.C_drew ?_)))
      (case aB => exact hb_)
      (case aF => exact (fun k_ hk => ⟨Kd.fresh' (Kd.R_lt (kr_ HO125)) k_ hk, Kd.fresh' (Kd.R_lt (kr_ HO133)) k_ hk, Kd.freshB (bj_ BK119) k_ hk⟩))
      (case aO => exact (kr_ HO130))
      (case aS => exact (below_size hb_))
      (case aL => have := LMc34.out; omega)
      intro v135 w47 ho hb hg hat
      rw [← Ny134.out] at ho
      have n0_ := Aside0.mk (blk_grown (bj_ BK118) hg (Kd.R_ne HO130.out BK118.out (by decide)))
      have n1_ := Aside0.mk (blk_grown (bj_ BK119) hg (Kd.R_away HO130.out (fun _ hk => hk.2.2)))
      have n2_ := Aside0.mk (Kd.R_after (ok := (fun k_ => some k_ ≠ (.slice Ao48 y131.length co48 : Value).ownBlock ∧ k_ ≠ gb119)) (by (with_reducible repeat (first | apply Kd.R_alloc | apply Kd.R_drewN | apply Kd.R_drew)); exact Kd.R_mono HO125.out (fun _ hk => ⟨⟨hk.2.1, hk.2.2⟩, hk.1⟩)) hg hat)
      have n3_ := Aside0.mk (Kd.R_after (ok := (fun k_ => some k_ ≠ (.slice Ao40 t123.length co40 : Value).ownBlock ∧ k_ ≠ gb119)) (by (with_reducible repeat (first | apply Kd.R_alloc | apply Kd.R_drewN | apply Kd.R_drew)); exact Kd.R_mono HO133.out (fun _ hk => ⟨⟨hk.1, hk.2.2⟩, hk.2.1⟩)) hg hat)
      have n4_ := Aside0.mk (hb)
      have n5_ := Aside0.mk (ho)
      clear BK118
      clear BK119
      clear HO125
      clear HO133
      clear HB
      clear HO130
      have BK118 := n0_
      have BK119 := n1_
      have HO125 := n2_
      have HO133 := n3_
      have HB := n4_
      have HO136 := n5_
      clear n0_ n1_ n2_ n3_ n4_ n5_
      clear ho hb hg hat
      obtain ⟨Ao49, co49, eo49⟩ := Kd.R_slice HO136.out
      (first | subst eo49 | (injection eo49 with f1_ f2_ f3_; have f4_ := f1_.symm; have f5_ := f3_.symm; clear f1_ f2_ f3_; subst f4_; subst f5_))
      refine hK.out _ _ ⟨(blk_cell BK119.out 0).trans rfl, (blk_cell BK118.out 0).trans rfl, (blk_cell BK118.out 1).trans rfl, (blk_cell BK118.out 2).trans rfl, (blk_cell BK118.out 3).trans rfl, (blk_cell BK118.out 4).trans rfl, (blk_cell BK118.out 5).trans rfl, (blk_cell BK118.out 6).trans rfl⟩ (fun hHeld => ?_)
      clear hK K
      refine norm_ (a' := ?_) ?_ ?_
      rotate_left
      ·
       show Act.put _ (some 46) _ = _
       simp only [ap_, s0_, s1_, i64_w]
       rfl
      refine one_ (i := 6) (N := some 48) (bl 12 127) rfl rfl (one_of HT_.out (by kernel_rfl)) (by decide) (fun K hK => ?_)
      refine goes_ Try.func13 (by kernel_rfl) rfl #[.slice Ao49 y134.length co49, .agg #[.int .i64 a1_0, .int .i64 a1_1, .string a1_2, .string a1_3, .int .i64 a1_4, .int .i64 a1_5, .int .i64 a1_6]] (by rfl) rfl rfl am_ ?_
      with_reducible refine (compress_Bits.calls _ _ y134 a1_0 a1_1 a1_2 a1_3 a1_4 a1_5 a1_6 t137 t138 _ ?side1 ?side2 A35.out).mono ?_
      (case side1 => repeat (first | exact (Kd.R_reads' HO136.out).2.2 | (with_reducible refine Kd.C_alloc ?_ _) | (with_reducible refine Kd.C_drewN ?_ _) | (with_reducible refine Kd.C_drew ?_)))
      (case side2 => exact (Kd.R_reads' HO136.out).2.1)
      rintro e w50 ⟨rfl, hb⟩
      refine ⟨_, rfl, ?_⟩
      have n0_ := Aside0.mk (Kd.R_below (kr_ HO125) hb)
      have n1_ := Aside0.mk (Kd.R_below (kr_ HO133) hb)
      have n2_ := Aside0.mk (Kd.R_below (kr_ HO136) hb)
      have n3_ := bk_ BK118 hb
      have n4_ := bk_ BK119 hb
      have n5_ := Aside0.mk (below_step hb_ hb)
      clear HO125
      clear HO133
      clear HO136
      clear BK118
      clear BK119
      clear HB
      have HO125 := n0_
      have HO133 := n1_
      have HO136 := n2_
      have BK118 := n3_
      have BK119 := n4_
      have HB := n5_
      clear n0_ n1_ n2_ n3_ n4_ n5_
      (try clear hb)
      (try clear hb2)
      (try clear hk)
      (try clear hi)
      refine hK.out _ _ ⟨(blk_cell BK119.out 0).trans rfl, (blk_cell BK118.out 0).trans rfl, (blk_cell BK118.out 1).trans rfl, (blk_cell BK118.out 2).trans rfl, (blk_cell BK118.out 3).trans rfl, (blk_cell BK118.out 4).trans rfl, (blk_cell BK118.out 5).trans rfl, (blk_cell BK118.out 6).trans rfl⟩ (fun hHeld => ?_)
      clear hK K
      refine norm_ (a' := ?_) ?_ ?_
      rotate_left
      ·
       show Act.put _ (some 48) _ = _
       simp only [ap_, s0_, s1_, i64_w]
       rfl
      refine pu_ HT_ 7 41 (bl 12 255) ?_
      refine pu_ HT_ 8 49 (bl 12 511) ?_
      refine pu_ HT_ 9 50 (bl 12 1023) ?_
      refine pu_ HT_ 10 9 (bl 12 2047) ?_
      refine pu_ HT_ 11 10 (bl 12 4095) ?_
      refine done_ (done_of HT_.out (by kernel_rfl)) ?_
      have hnb51 := NB118_119.out
      have hnc51 := NB119_118.out
      have hcz52_0 := bc0 BK118
      have hcz52_1 := bc1 BK118
      have hcz52_2 := bc2 BK118
      have hcz52_3 := bc3 BK118
      have hcz52_4 := bc4 BK118
      have hcz52_5 := bc5 BK118
      have hcz52_6 := bc6 BK118
      have hfz52_0 := blk_frozen BK118.out 0
      have hfz52_1 := blk_frozen BK118.out 1
      have hfz52_2 := blk_frozen BK118.out 2
      have hfz52_3 := blk_frozen BK118.out 3
      have hfz52_4 := blk_frozen BK118.out 4
      have hfz52_5 := blk_frozen BK118.out 5
      have hfz52_6 := blk_frozen BK118.out 6
      go_upto_region 8 with (first | ((with_reducible refine gate_callee (f := 13) rfl ?_); refine goesL_ (some 53) rfl rfl Try.func13 (by kernel_rfl) rfl #[.slice none 0 0, .agg #[.int .i64 a1_0, .int .i64 a1_1, .string a1_2, .string a1_3, .int .i64 a1_4, .int .i64 a1_5, .int .i64 a1_6]] rfl am_ ?_; (refine (compress_Bits.calls _ _ ([] : List (S26)) a1_0 a1_1 a1_2 a1_3 a1_4 a1_5 a1_6 t139 t140 _ ?side1 ?side2 A36.out).mono ?_); (case side1 => exact Kd.C_nil _ _); (case side2 => exact Nat.le_refl _); rintro e w53 ⟨rfl, hb⟩; refine ⟨_, rfl, ?_⟩; have n0_ := Aside0.mk (Kd.R_below (kr_ HO125) hb); have n1_ := Aside0.mk (Kd.R_below (kr_ HO133) hb); have n2_ := Aside0.mk (Kd.R_below (kr_ HO136) hb); have n3_ := bk_ BK118 hb; have n4_ := bk_ BK119 hb; have n5_ := Aside0.mk (below_step hb_ hb); clear HO125; clear HO133; clear HO136; clear BK118; clear BK119; clear HB; have HO125 := n0_; have HO133 := n1_; have HO136 := n2_; have BK118 := n3_; have BK119 := n4_; have HB := n5_; clear n0_ n1_ n2_ n3_ n4_ n5_; (try clear hb); (try clear hb2); (try clear hk); (try clear hi)))
      (try simp only [Act.put, List.setIfInBounds_toArray, List.set_cons_zero, List.set_cons_succ])
      go_cut [65] (fun v65 wc => ∃ (kq : Nat) (x65_36 : Bool), v65 = .bool x65_36 ∧ Aside0 (hopmeshlaw14_CompressShorter.j1 kq t126 t137 t139 x65_36 = some r) ∧ Aside0 (kq ≤ kj5) ∧ Aside0 (wc.heap[gb118]? = some (.cells #[.int .i64 a1_0, .int .i64 a1_1, .string a1_2, .string a1_3, .int .i64 a1_4, .int .i64 a1_5, .int .i64 a1_6] 24 (0, 0))) ∧ Aside0 (wc.heap[gb119]? = some (.cells #[.string a2_0] 26 (0, 0))) ∧ Aside0 (Below w.heap.size w wc))
      case first =>
       have H := HC37.out
       clear HC37
       by_cases c54 : t127 = 0
       ·
        rw [if_pos c54] at H
        have c54b0 : (t127 == 0) = true := beq_iff_eq.mpr c54
        have c54b1 : (t127 != 0) = false := bne_eq_false_iff_eq.mpr c54
        clear c54
        (first | rw [c54b0] | (simp only [i64_w, i32_w]; rw [c54b0]) | skip)
        by_cases c55 : t138 = 0
        ·
         rw [if_pos c55] at H
         have c55b0 : (t138 == 0) = true := beq_iff_eq.mpr c55
         have c55b1 : (t138 != 0) = false := bne_eq_false_iff_eq.mpr c55
         clear c55
         have H' := Aside0.mk H
         clear H
         go_wp2
         go_meet
         case rel => exact ⟨_, ((t140 != 0)), rl_, H', ⟨by have := HJ5.out; first | omega | exact Nat.le_refl _⟩, ⟨bj_ BK118⟩, ⟨bj_ BK119⟩, ⟨hb_⟩⟩
        ·
         rw [if_neg c55] at H
         have c55b0 : (t138 == 0) = false := beq_eq_false_iff_ne.mpr c55
         have c55b1 : (t138 != 0) = true := bne_iff_ne.mpr c55
         have H' := Aside0.mk H
         clear H
         go_wp2
         go_meet
         case rel => exact ⟨_, (true), rl_, H', ⟨by have := HJ5.out; first | omega | exact Nat.le_refl _⟩, ⟨bj_ BK118⟩, ⟨bj_ BK119⟩, ⟨hb_⟩⟩
       ·
        rw [if_neg c54] at H
        have c54b0 : (t127 == 0) = false := beq_eq_false_iff_ne.mpr c54
        have c54b1 : (t127 != 0) = true := bne_iff_ne.mpr c54
        (first | rw [c54b0] | (simp only [i64_w, i32_w]; rw [c54b0]) | skip)
        have H' := Aside0.mk H
        clear H
        go_wp2
        go_meet
        case rel => exact ⟨_, (true), rl_, H', ⟨by have := HJ5.out; first | omega | exact Nat.le_refl _⟩, ⟨bj_ BK118⟩, ⟨bj_ BK119⟩, ⟨hb_⟩⟩
      case rest =>
       clear HC37
       try clear c1; try clear p2; try clear c3; try clear c5; try clear c13; try clear c14; try clear c30; try clear c34; try clear c51; try clear c54; try clear c54b0; try clear c54b1; try clear c55; try clear c55b0; try clear c55b1; try clear hcz27_2; try clear hcz27_3; try clear hcz27_4; try clear hcz27_5; try clear hcz27_6; try clear hcz52_0; try clear hcz52_1; try clear hcz52_2; try clear hcz52_3; try clear hcz52_4; try clear hcz52_5; try clear hcz52_6; try clear hfz17_0; try clear hfz17_1; try clear hfz17_2; try clear hfz17_3; try clear hfz17_4; try clear hfz17_5; try clear hfz17_6; try clear hfz19_0; try clear hfz22_0; try clear hfz22_1; try clear hfz22_2; try clear hfz22_3; try clear hfz22_4; try clear hfz22_5; try clear hfz22_6; try clear hfz24_0; try clear hfz27_0; try clear hfz27_1; try clear hfz27_2; try clear hfz27_3; try clear hfz27_4; try clear hfz27_5; try clear hfz27_6; try clear hfz52_0; try clear hfz52_1; try clear hfz52_2; try clear hfz52_3; try clear hfz52_4; try clear hfz52_5; try clear hfz52_6
       (repeat clear BK118); (repeat clear BK119); (repeat clear HB)
       obtain ⟨kq, x65_36, rfl, HA, HJ36, BK118, BK119, HB⟩ := hcut
       cases kq with
       | zero => exact absurd HA.out (by simp [hopmeshlaw14_CompressShorter.j1])
       | succ kj36 =>
        have H := HA.out
        clear HA
        simp only [hopmeshlaw14_CompressShorter.j1] at H
        by_cases c56 : x65_36 = true
        ·
         subst c56
         have H1 : (some true) = some r := by rw [if_pos rfl] at H; exact H
         clear H
         have H := H1
         clear H1
         obtain rfl := Option.some.inj H
         go_wp2
         go_ret
         exact ⟨er_, hb_⟩
        ·
         replace c56 := Bool.eq_false_iff.mpr c56
         subst c56
         have H1 : (if t137 ≤ t126 then (some (decide (t126 ≤ t139))) else (some false)) = some r := by rw [if_neg (show ¬ (false = true) by decide)] at H; exact H
         clear H
         have H := H1
         clear H1
         by_cases c57 : t137 ≤ t126
         ·
          rw [if_pos c57] at H
          have c57b0 : decide (t137 ≤ t126) = true := decide_eq_true c57
          clear c57
          obtain rfl := Option.some.inj H
          go_wp2
          go_ret
          exact ⟨er_, hb_⟩
         ·
          rw [if_neg c57] at H
          have c57b0 : decide (t137 ≤ t126) = false := decide_eq_false c57
          clear c57
          obtain rfl := Option.some.inj H
          go_wp2
          go_ret
          exact ⟨er_, hb_⟩
     ·
      rw [if_neg c34] at H
      exact absurd H (by simp)
 ·
  replace c5 := Bool.eq_false_iff.mpr c5
  subst c5
  have H1 : (some false) = some r := by rw [if_neg (show ¬ (false = true) by decide)] at H; exact H
  clear H
  have H := H1
  clear H1
  obtain rfl := Option.some.inj H
  go_enter Try.func3, Try.ntmps3
  go_wp2_with (first | ((with_reducible refine gate_dst (N := 4) rfl ?_); refine bx_ 4 #[.int .i64 a1_0, .int .i64 a1_1, .string a1_2, .string a1_3, .int .i64 a1_4, .int .i64 a1_5, .int .i64 a1_6] 24 ?_; intro gb118 hg w58 hbox hb; have n0_ := Aside0.mk (below_step hb_ hb); have n1_ := Aside0.mk (hbox); have n2_ := Aside0.mk ((by rw [hg]; exact (below_size hb_) : w.heap.size ≤ gb118)); have n3_ := Aside0.mk ((by rw [hg]; exact (below_size hb_) : w.heap.size ≤ gb118)); clear HB; have HB := n0_; have BK118 := n1_; have GW118 := n2_; have GE118 := n3_; clear n0_ n1_ n2_ n3_; clear hb hbox hg) | ((with_reducible refine gate_dst (N := 5) rfl ?_); refine bx_ 5 #[.string a2_0] 26 ?_; intro gb119 hg w59 hbox hb; have n0_ := bk_ BK118 hb; have n1_ := Aside0.mk (below_step hb_ hb); have n2_ := Aside0.mk (hbox); have n3_ := Aside0.mk ((by rw [hg]; exact (below_size hb_) : w.heap.size ≤ gb119)); have n4_ := Aside0.mk ((by rw [hg]; exact (below_size hb_) : w.heap.size ≤ gb119)); have n5_ := Aside0.mk ((by rw [hg]; exact Nat.ne_of_lt (blk_lt (bj_ BK118)) : gb118 ≠ gb119)); have n6_ := Aside0.mk ((by rw [hg]; exact Nat.ne_of_gt (blk_lt (bj_ BK118)) : gb119 ≠ gb118)); clear BK118; clear HB; have BK118 := n0_; have HB := n1_; have BK119 := n2_; have GW119 := n3_; have GE119 := n4_; have NB118_119 := n5_; have NB119_118 := n6_; clear n0_ n1_ n2_ n3_ n4_ n5_ n6_; clear hb hbox hg) | ((with_reducible refine gate_callee (f := 10) rfl ?_); refine goesL_ (some 13) rfl rfl Try.func10 (by kernel_rfl) rfl #[] rfl am_ ?_; (with_reducible refine (hopmeshlaw14_awake.calls k  false _ A4.out).mono ?_); rintro e w60 ⟨rfl, hb⟩; refine ⟨_, rfl, ?_⟩; have n0_ := bk_ BK118 hb; have n1_ := bk_ BK119 hb; have n2_ := Aside0.mk (below_step hb_ hb); clear BK118; clear BK119; clear HB; have BK118 := n0_; have BK119 := n1_; have HB := n2_; clear n0_ n1_ n2_; (try clear hb); (try clear hb2); (try clear hk); (try clear hi)))
  go_ret
  exact ⟨er_, hb_⟩

end Go.Proofs.Ytmbbijhppgkdfaa.P14
