-- Written by a program of this session (wip/tools) over the kit's print; Lean checks it.
import Derived.Test.YtmbbijhppgkdfaaP140
import Derived.Test.YtmbbijhppgkdfaaP14Eq0
import Derived.Test.YtmbbijhppgkdfaaP14Aw
import Derived.Test.YtmbbijhppgkdfaaP14Sh
import Derived.Test.YtmbbijhppgkdfaaGclone
import Derived.Test.YtmbbijhppgkdfaaGcomp
import Derived.Test.YtmbbijhppgkdfaaGexp
import Derived.Test.YtmbbijhppgkdfaaGfew
namespace Go.Proofs.Ytmbbijhppgkdfaa.P14
open Go.RowKit Go.Proofs.YtmbbijhppgkdfaaW.PrintWords Go.Proofs.YtmbbijhppgkdfaaW.PrintLast Go.Proofs.YtmbbijhppgkdfaaW.PrintMore
attribute [local go_sem] max2_int min2_int max_two min_two max_three min_three max_four min_four   -- for this text's walks alone
set_option linter.unusedVariables false
set_option linter.unusedSimpArgs false

attribute [local go_sem high] eqA24
/-! ### hopmeshlaw14_CompressBack: function 7 -/
def hopmeshlaw14_CompressBack.j0 : Nat → List (S26) → ByteArray → Bool → Int → Int → ByteArray → ByteArray → Int → Int → Int → Option (Bool)
 | 0, _, _, _, _, _, _, _, _, _, _ => none
 | k + 1, x0, x2, x28, x374000, x374001, x374002, x374003, x374004, x374005, x374006 => if x28 = true then (some true) else ((api_Context.f x0).bind fun t377 => ((compress_Compress.f t377 x374000 x374001 x374002 x374003 x374004 x374005 x374006).bind fun bt380 => ((api_Context.f x0).bind fun t382 => ((compress_Bits.f t382 x374000 x374001 x374002 x374003 x374004 x374005 x374006).bind fun bt385 => (if bt380.2 = 0 then ((api_Context.f x0).bind fun t387 => (if bt380.1.size + x2.size ≤ 9223372036854775807 then ((compress_Expand.f t387 (bt380.1 ++ x2)).bind fun bt390 => (if bt385.2 = 0 then (if bt390.2.2.2.2.2.2.2.2 = 0 then (if (bt390.1 == x374000 && (bt390.2.1 == x374001 && (bt390.2.2.1.toList == x374002.toList && (bt390.2.2.2.1.toList == x374003.toList && (bt390.2.2.2.2.1 == x374004 && (bt390.2.2.2.2.2.1 == x374005 && (bt390.2.2.2.2.2.2.1 == x374006))))))) = true then (if bt390.2.2.2.2.2.2.2.1.toList = x2.toList then (if (bt380.1.size : Int) = (wrap64 (Int.tdiv (wrap64 (bt385.1 + 7)) 8)) then (if bt385.1 ≤ 132 then (some (decide (bt385.1 ≥ 21))) else (some false)) else (some false)) else (some false)) else (some false)) else (some false)) else (some false))) else (none))) else (if bt380.2 = 1 then (if bt380.1.toList = ([] : List UInt8) then (if bt385.2 = bt380.2 then (some (bt385.1 == 0)) else (some false)) else (some false)) else (some false)))))))
def hopmeshlaw14_CompressBack.f (k : Nat) (l0 : List (S26)) (a1_0 : Int) (a1_1 : Int) (a1_2 : ByteArray) (a1_3 : ByteArray) (a1_4 : Int) (a1_5 : Int) (a1_6 : Int) (a2 : ByteArray) : Option (Bool) := (hopmeshlaw14_awake.f k).bind fun t374 => (if t374 = true then ((hopmeshlaw14_few.f l0).bind fun t375 => (if t375 = true then ((hopmeshlaw14_short.f a1_0 a1_1 a1_2 a1_3 a1_4 a1_5 a1_6).bind fun t376 => (if t376 = true then (hopmeshlaw14_CompressBack.j0 k l0 a2 (decide ((a2.size : Int) > 100)) a1_0 a1_1 a1_2 a1_3 a1_4 a1_5 a1_6) else (hopmeshlaw14_CompressBack.j0 k l0 a2 true a1_0 a1_1 a1_2 a1_3 a1_4 a1_5 a1_6))) else (hopmeshlaw14_CompressBack.j0 k l0 a2 true a1_0 a1_1 a1_2 a1_3 a1_4 a1_5 a1_6))) else (some false))
theorem hopmeshlaw14_CompressBack.mono_l : ∀ k, (∀ y0 y1 y2 y3 y4 y5 y6 y7 y8 y9, LeO (hopmeshlaw14_CompressBack.j0 k y0 y1 y2 y3 y4 y5 y6 y7 y8 y9) (hopmeshlaw14_CompressBack.j0 (k + 1) y0 y1 y2 y3 y4 y5 y6 y7 y8 y9))
 | 0 => fun _ _ _ _ _ _ _ _ _ _ r h => by simp [hopmeshlaw14_CompressBack.j0] at h
 | k + 1 => by
  have ih0 := hopmeshlaw14_CompressBack.mono_l k
  ·
   intro y0 y1 y2 y3 y4 y5 y6 y7 y8 y9
   unfold hopmeshlaw14_CompressBack.j0
   repeat' first
   | (with_reducible exact ih0 _ _ _ _ _ _ _ _ _ _)
   | (with_reducible exact hopmeshlaw14_awake.mono _)
   | (with_reducible exact LeO.refl _)
   | (with_reducible exact LeO.none _)
   | (with_reducible refine LeO.ite ?_ ?_)
   | (with_reducible refine LeO.bind ?_ (fun _ => ?_))
   | exact ih0 _ _ _ _ _ _ _ _ _ _
   | exact hopmeshlaw14_awake.mono _
   | exact LeO.none _
   | refine LeO.ite ?_ ?_
   | refine LeO.bind ?_ (fun _ => ?_)
theorem hopmeshlaw14_CompressBack.mono : ∀ a0 a1 a2 a3 a4 a5 a6 a7 a8 k, LeO (hopmeshlaw14_CompressBack.f k a0 a1 a2 a3 a4 a5 a6 a7 a8) (hopmeshlaw14_CompressBack.f (k + 1) a0 a1 a2 a3 a4 a5 a6 a7 a8) := by
 intro a0 a1 a2 a3 a4 a5 a6 a7 a8 k
 have ih0 := hopmeshlaw14_CompressBack.mono_l k
 unfold hopmeshlaw14_CompressBack.f
 repeat' first
   | (with_reducible exact ih0 _ _ _ _ _ _ _ _ _ _)
   | (with_reducible exact hopmeshlaw14_awake.mono _)
   | (with_reducible exact LeO.refl _)
   | (with_reducible exact LeO.none _)
   | (with_reducible refine LeO.ite ?_ ?_)
   | (with_reducible refine LeO.bind ?_ (fun _ => ?_))
   | exact ih0 _ _ _ _ _ _ _ _ _ _
   | exact hopmeshlaw14_awake.mono _
   | exact LeO.none _
   | refine LeO.ite ?_ ?_
   | refine LeO.bind ?_ (fun _ => ?_)
def hopmeshlaw14_CompressBack.T5 : Bool × List (List Nat × List Nat) := (true, [([], []), ([0], [0]), ([], []), ([1, 2, 1], [1, 2]), ([3], [3]), ([4], [4]), ([4], [4]), ([5, 3, 0, 1, 2, 3, 4, 5], [5]), ([6, 7, 0, 1, 2, 3, 4, 5, 6, 7], [6])])
def hopmeshlaw14_CompressBack.B5 : List Nat := [0, 1, 0, 7, 15, 31, 31, 63, 255]
theorem hopmeshlaw14_CompressBack.tab5 : rtab .any (opsOf Try.f7 5) = hopmeshlaw14_CompressBack.T5 := by kernel_rfl
theorem hopmeshlaw14_CompressBack.bits5 : waitsOk hopmeshlaw14_CompressBack.T5.2 hopmeshlaw14_CompressBack.B5 = true := by kernel_rfl
def hopmeshlaw14_CompressBack.T6 : Bool × List (List Nat × List Nat) := (true, [([], []), ([0], [0]), ([], []), ([1, 2, 1], [1, 2]), ([3], [3]), ([4], [4]), ([4], [4]), ([5, 3, 0, 1, 2, 3, 4, 5], [5]), ([6, 7, 0, 1, 2, 3, 4, 5, 6, 7], [6])])
def hopmeshlaw14_CompressBack.B6 : List Nat := [0, 1, 0, 7, 15, 31, 31, 63, 255]
theorem hopmeshlaw14_CompressBack.tab6 : rtab .any (opsOf Try.f7 6) = hopmeshlaw14_CompressBack.T6 := by kernel_rfl
theorem hopmeshlaw14_CompressBack.bits6 : waitsOk hopmeshlaw14_CompressBack.T6.2 hopmeshlaw14_CompressBack.B6 = true := by kernel_rfl
set_option maxHeartbeats 8000000 in
set_option maxRecDepth 100000 in
theorem hopmeshlaw14_CompressBack.calls (k : Nat) (A0 : Option Addr) (c0 : Nat) (l0 : List (S26)) (a1_0 : Int) (a1_1 : Int) (a1_2 : ByteArray) (a1_3 : ByteArray) (a1_4 : Int) (a1_5 : Int) (a1_6 : Int) (a2 : ByteArray) (r : Bool) (w : World) (hr0 : Kd.C k26 w A0 l0.length l0) (hc0 : l0.length ≤ c0) (h : hopmeshlaw14_CompressBack.f k l0 a1_0 a1_1 a1_2 a1_3 a1_4 a1_5 a1_6 a2 = some r) :
  Calls Try.prog 7 #[.slice A0 l0.length c0, .agg #[.int .i64 a1_0, .int .i64 a1_1, .string a1_2, .string a1_3, .int .i64 a1_4, .int .i64 a1_5, .int .i64 a1_6], .string a2] w fun e w' => e = .returned (.bool r) ∧ Below w.heap.size w w' := by
 have hu24 := Try.underlying24
 have HR0 := Aside0.mk hr0
 have HC0 := Aside0.mk hc0
 clear hr0 hc0
 have HB := Aside0.mk (Below.refl w.heap.size w)
 have H : ((hopmeshlaw14_awake.f k).bind fun t374 => (if t374 = true then ((hopmeshlaw14_few.f l0).bind fun t375 => (if t375 = true then ((hopmeshlaw14_short.f a1_0 a1_1 a1_2 a1_3 a1_4 a1_5 a1_6).bind fun t376 => (if t376 = true then (hopmeshlaw14_CompressBack.j0 k l0 a2 (decide ((a2.size : Int) > 100)) a1_0 a1_1 a1_2 a1_3 a1_4 a1_5 a1_6) else (hopmeshlaw14_CompressBack.j0 k l0 a2 true a1_0 a1_1 a1_2 a1_3 a1_4 a1_5 a1_6))) else (hopmeshlaw14_CompressBack.j0 k l0 a2 true a1_0 a1_1 a1_2 a1_3 a1_4 a1_5 a1_6))) else (some false))) = some r := h
 clear h
 replace H := Option.bind_eq_some_iff.mp H
 obtain ⟨t374, A40, H⟩ := H
 replace H : (if t374 = true then ((hopmeshlaw14_few.f l0).bind fun t375 => (if t375 = true then ((hopmeshlaw14_short.f a1_0 a1_1 a1_2 a1_3 a1_4 a1_5 a1_6).bind fun t376 => (if t376 = true then (hopmeshlaw14_CompressBack.j0 k l0 a2 (decide ((a2.size : Int) > 100)) a1_0 a1_1 a1_2 a1_3 a1_4 a1_5 a1_6) else (hopmeshlaw14_CompressBack.j0 k l0 a2 true a1_0 a1_1 a1_2 a1_3 a1_4 a1_5 a1_6))) else (hopmeshlaw14_CompressBack.j0 k l0 a2 true a1_0 a1_1 a1_2 a1_3 a1_4 a1_5 a1_6))) else (some false)) = some r := H
 have A4 := Aside0.mk A40
 clear A40
 by_cases c5 : t374 = true
 ·
  subst c5
  have H1 : ((hopmeshlaw14_few.f l0).bind fun t375 => (if t375 = true then ((hopmeshlaw14_short.f a1_0 a1_1 a1_2 a1_3 a1_4 a1_5 a1_6).bind fun t376 => (if t376 = true then (hopmeshlaw14_CompressBack.j0 k l0 a2 (decide ((a2.size : Int) > 100)) a1_0 a1_1 a1_2 a1_3 a1_4 a1_5 a1_6) else (hopmeshlaw14_CompressBack.j0 k l0 a2 true a1_0 a1_1 a1_2 a1_3 a1_4 a1_5 a1_6))) else (hopmeshlaw14_CompressBack.j0 k l0 a2 true a1_0 a1_1 a1_2 a1_3 a1_4 a1_5 a1_6))) = some r := by rw [if_pos rfl] at H; exact H
  clear H
  have H := H1
  clear H1
  have HC6 := Aside0.mk H
  clear H
  go_enter Try.func7, Try.ntmps7
  go_upto_region 3 with (first | ((with_reducible refine gate_dst (N := 4) rfl ?_); refine bx_ 4 #[.int .i64 a1_0, .int .i64 a1_1, .string a1_2, .string a1_3, .int .i64 a1_4, .int .i64 a1_5, .int .i64 a1_6] 24 ?_; intro gb373 hg w7 hbox hb; have n0_ := Aside0.mk (below_step hb_ hb); have n1_ := Aside0.mk (hbox); have n2_ := Aside0.mk ((by rw [hg]; exact (below_size hb_) : w.heap.size ≤ gb373)); have n3_ := Aside0.mk ((by rw [hg]; exact (below_size hb_) : w.heap.size ≤ gb373)); clear HB; have HB := n0_; have BK373 := n1_; have GW373 := n2_; have GE373 := n3_; clear n0_ n1_ n2_ n3_; clear hb hbox hg) | ((with_reducible refine gate_callee (f := 10) rfl ?_); refine goesL_ (some 14) rfl rfl Try.func10 (by kernel_rfl) rfl #[] rfl am_ ?_; (with_reducible refine (hopmeshlaw14_awake.calls k  true _ A4.out).mono ?_); rintro e w8 ⟨rfl, hb⟩; refine ⟨_, rfl, ?_⟩; have n0_ := bk_ BK373 hb; have n1_ := Aside0.mk (below_step hb_ hb); clear BK373; clear HB; have BK373 := n0_; have HB := n1_; clear n0_ n1_; (try clear hb); (try clear hb2); (try clear hk); (try clear hi)))
  (try simp only [Act.put, List.setIfInBounds_toArray, List.set_cons_zero, List.set_cons_succ])
  go_cut [28] (fun v28 wc => ∃ (kq : Nat) (x28_5 : Bool), v28 = .bool x28_5 ∧ Aside0 (hopmeshlaw14_CompressBack.j0 kq l0 a2 x28_5 a1_0 a1_1 a1_2 a1_3 a1_4 a1_5 a1_6 = some r) ∧ Aside0 (kq ≤ k) ∧ Aside0 (wc.heap[gb373]? = some (.cells #[.int .i64 a1_0, .int .i64 a1_1, .string a1_2, .string a1_3, .int .i64 a1_4, .int .i64 a1_5, .int .i64 a1_6] 24 (0, 0))) ∧ Aside0 (Below w.heap.size w wc))
  case first =>
   have H := HC6.out
   clear HC6
   replace H := Option.bind_eq_some_iff.mp H
   obtain ⟨t375, A90, H⟩ := H
   replace H : (if t375 = true then ((hopmeshlaw14_short.f a1_0 a1_1 a1_2 a1_3 a1_4 a1_5 a1_6).bind fun t376 => (if t376 = true then (hopmeshlaw14_CompressBack.j0 k l0 a2 (decide ((a2.size : Int) > 100)) a1_0 a1_1 a1_2 a1_3 a1_4 a1_5 a1_6) else (hopmeshlaw14_CompressBack.j0 k l0 a2 true a1_0 a1_1 a1_2 a1_3 a1_4 a1_5 a1_6))) else (hopmeshlaw14_CompressBack.j0 k l0 a2 true a1_0 a1_1 a1_2 a1_3 a1_4 a1_5 a1_6)) = some r := H
   have A9 := Aside0.mk A90
   clear A90
   by_cases c10 : t375 = true
   ·
    subst c10
    have H1 : ((hopmeshlaw14_short.f a1_0 a1_1 a1_2 a1_3 a1_4 a1_5 a1_6).bind fun t376 => (if t376 = true then (hopmeshlaw14_CompressBack.j0 k l0 a2 (decide ((a2.size : Int) > 100)) a1_0 a1_1 a1_2 a1_3 a1_4 a1_5 a1_6) else (hopmeshlaw14_CompressBack.j0 k l0 a2 true a1_0 a1_1 a1_2 a1_3 a1_4 a1_5 a1_6))) = some r := by rw [if_pos rfl] at H; exact H
    clear H
    have H := H1
    clear H1
    replace H := Option.bind_eq_some_iff.mp H
    obtain ⟨t376, A110, H⟩ := H
    replace H : (if t376 = true then (hopmeshlaw14_CompressBack.j0 k l0 a2 (decide ((a2.size : Int) > 100)) a1_0 a1_1 a1_2 a1_3 a1_4 a1_5 a1_6) else (hopmeshlaw14_CompressBack.j0 k l0 a2 true a1_0 a1_1 a1_2 a1_3 a1_4 a1_5 a1_6)) = some r := H
    have A11 := Aside0.mk A110
    clear A110
    by_cases c12 : t376 = true
    ·
     subst c12
     have H1 : (hopmeshlaw14_CompressBack.j0 k l0 a2 (decide ((a2.size : Int) > 100)) a1_0 a1_1 a1_2 a1_3 a1_4 a1_5 a1_6) = some r := by rw [if_pos rfl] at H; exact H
     clear H
     have H := H1
     clear H1
     have H' := Aside0.mk H
     clear H
     go_wp2_with (first | ((with_reducible refine gate_callee (f := 11) rfl ?_); refine goesL_ (some 17) rfl rfl Try.func11 (by kernel_rfl) rfl #[.slice A0 l0.length c0] rfl am_ ?_; (with_reducible refine (hopmeshlaw14_few.calls _ _ l0 true _ ?side1 ?side2 A9.out).mono ?_); (case side1 => repeat (first | exact (Kd.C_below HR0.out HB.out) | (with_reducible refine Kd.C_alloc ?_ _) | (with_reducible refine Kd.C_drewN ?_ _) | (with_reducible refine Kd.C_drew ?_))); (case side2 => exact HC0.out); rintro e w13 ⟨rfl, hb⟩; refine ⟨_, rfl, ?_⟩; have n0_ := bk_ BK373 hb; have n1_ := Aside0.mk (below_step hb_ hb); clear BK373; clear HB; have BK373 := n0_; have HB := n1_; clear n0_ n1_; (try clear hb); (try clear hb2); (try clear hk); (try clear hi); have hcz14_0 := bc0 BK373; have hcz14_1 := bc1 BK373; have hcz14_2 := bc2 BK373; have hcz14_3 := bc3 BK373; have hcz14_4 := bc4 BK373; have hcz14_5 := bc5 BK373; have hcz14_6 := bc6 BK373; have hfz14_0 := blk_frozen BK373.out 0; have hfz14_1 := blk_frozen BK373.out 1; have hfz14_2 := blk_frozen BK373.out 2; have hfz14_3 := blk_frozen BK373.out 3; have hfz14_4 := blk_frozen BK373.out 4; have hfz14_5 := blk_frozen BK373.out 5; have hfz14_6 := blk_frozen BK373.out 6) | (go_at_call 12; (with_reducible refine (hopmeshlaw14_short.calls a1_0 a1_1 a1_2 a1_3 a1_4 a1_5 a1_6 true _ A11.out).mono ?_); rintro e w15 ⟨rfl, hb⟩; have n0_ := bk_ BK373 hb; have n1_ := Aside0.mk (below_step hb_ hb); clear BK373; clear HB; have BK373 := n0_; have HB := n1_; clear n0_ n1_; (try clear hb); (try clear hb2); (try clear hk); (try clear hi)))
     go_meet
     case rel => exact ⟨_, (decide ((a2.size : Int) > 100)), rl_, H', ⟨by first | omega | exact Nat.le_refl _⟩, ⟨bj_ BK373⟩, ⟨hb_⟩⟩
    ·
     replace c12 := Bool.eq_false_iff.mpr c12
     subst c12
     have H1 : (hopmeshlaw14_CompressBack.j0 k l0 a2 true a1_0 a1_1 a1_2 a1_3 a1_4 a1_5 a1_6) = some r := by rw [if_neg (show ¬ (false = true) by decide)] at H; exact H
     clear H
     have H := H1
     clear H1
     have H' := Aside0.mk H
     clear H
     go_wp2_with (first | ((with_reducible refine gate_callee (f := 11) rfl ?_); refine goesL_ (some 17) rfl rfl Try.func11 (by kernel_rfl) rfl #[.slice A0 l0.length c0] rfl am_ ?_; (with_reducible refine (hopmeshlaw14_few.calls _ _ l0 true _ ?side1 ?side2 A9.out).mono ?_); (case side1 => repeat (first | exact (Kd.C_below HR0.out HB.out) | (with_reducible refine Kd.C_alloc ?_ _) | (with_reducible refine Kd.C_drewN ?_ _) | (with_reducible refine Kd.C_drew ?_))); (case side2 => exact HC0.out); rintro e w16 ⟨rfl, hb⟩; refine ⟨_, rfl, ?_⟩; have n0_ := bk_ BK373 hb; have n1_ := Aside0.mk (below_step hb_ hb); clear BK373; clear HB; have BK373 := n0_; have HB := n1_; clear n0_ n1_; (try clear hb); (try clear hb2); (try clear hk); (try clear hi); have hcz17_0 := bc0 BK373; have hcz17_1 := bc1 BK373; have hcz17_2 := bc2 BK373; have hcz17_3 := bc3 BK373; have hcz17_4 := bc4 BK373; have hcz17_5 := bc5 BK373; have hcz17_6 := bc6 BK373; have hfz17_0 := blk_frozen BK373.out 0; have hfz17_1 := blk_frozen BK373.out 1; have hfz17_2 := blk_frozen BK373.out 2; have hfz17_3 := blk_frozen BK373.out 3; have hfz17_4 := blk_frozen BK373.out 4; have hfz17_5 := blk_frozen BK373.out 5; have hfz17_6 := blk_frozen BK373.out 6) | (go_at_call 12; (with_reducible refine (hopmeshlaw14_short.calls a1_0 a1_1 a1_2 a1_3 a1_4 a1_5 a1_6 false _ A11.out).mono ?_); rintro e w18 ⟨rfl, hb⟩; have n0_ := bk_ BK373 hb; have n1_ := Aside0.mk (below_step hb_ hb); clear BK373; clear HB; have BK373 := n0_; have HB := n1_; clear n0_ n1_; (try clear hb); (try clear hb2); (try clear hk); (try clear hi)))
     go_meet
     case rel => exact ⟨_, (true), rl_, H', ⟨by first | omega | exact Nat.le_refl _⟩, ⟨bj_ BK373⟩, ⟨hb_⟩⟩
   ·
    replace c10 := Bool.eq_false_iff.mpr c10
    subst c10
    have H1 : (hopmeshlaw14_CompressBack.j0 k l0 a2 true a1_0 a1_1 a1_2 a1_3 a1_4 a1_5 a1_6) = some r := by rw [if_neg (show ¬ (false = true) by decide)] at H; exact H
    clear H
    have H := H1
    clear H1
    have H' := Aside0.mk H
    clear H
    go_wp2_with (first | ((with_reducible refine gate_callee (f := 11) rfl ?_); refine goesL_ (some 17) rfl rfl Try.func11 (by kernel_rfl) rfl #[.slice A0 l0.length c0] rfl am_ ?_; (with_reducible refine (hopmeshlaw14_few.calls _ _ l0 false _ ?side1 ?side2 A9.out).mono ?_); (case side1 => repeat (first | exact (Kd.C_below HR0.out HB.out) | (with_reducible refine Kd.C_alloc ?_ _) | (with_reducible refine Kd.C_drewN ?_ _) | (with_reducible refine Kd.C_drew ?_))); (case side2 => exact HC0.out); rintro e w19 ⟨rfl, hb⟩; refine ⟨_, rfl, ?_⟩; have n0_ := bk_ BK373 hb; have n1_ := Aside0.mk (below_step hb_ hb); clear BK373; clear HB; have BK373 := n0_; have HB := n1_; clear n0_ n1_; (try clear hb); (try clear hb2); (try clear hk); (try clear hi)))
    go_meet
    case rel => exact ⟨_, (true), rl_, H', ⟨by first | omega | exact Nat.le_refl _⟩, ⟨bj_ BK373⟩, ⟨hb_⟩⟩
  case rest =>
   clear HC6
   try clear c1; try clear p2; try clear c5; try clear c7; try clear c10; try clear c11; try clear c12; try clear hcz14_0; try clear hcz14_1; try clear hcz14_2; try clear hcz14_3; try clear hcz14_4; try clear hcz14_5; try clear hcz14_6; try clear hcz17_0; try clear hcz17_1; try clear hcz17_2; try clear hcz17_3; try clear hcz17_4; try clear hcz17_5; try clear hcz17_6; try clear hfz14_0; try clear hfz14_1; try clear hfz14_2; try clear hfz14_3; try clear hfz14_4; try clear hfz14_5; try clear hfz14_6; try clear hfz17_0; try clear hfz17_1; try clear hfz17_2; try clear hfz17_3; try clear hfz17_4; try clear hfz17_5; try clear hfz17_6
   (repeat clear BK373); (repeat clear HB)
   obtain ⟨kq, x28_5, rfl, HA, HJ5, BK373, HB⟩ := hcut
   cases kq with
   | zero => exact absurd HA.out (by simp [hopmeshlaw14_CompressBack.j0])
   | succ kj5 =>
    have H := HA.out
    clear HA
    simp only [hopmeshlaw14_CompressBack.j0] at H
    by_cases c20 : x28_5 = true
    ·
     subst c20
     have H1 : (some true) = some r := by rw [if_pos rfl] at H; exact H
     clear H
     have H := H1
     clear H1
     obtain rfl := Option.some.inj H
     go_wp2
     go_ret
     exact ⟨er_, hb_⟩
    ·
     replace c20 := Bool.eq_false_iff.mpr c20
     subst c20
     have H1 : ((api_Context.f l0).bind fun t377 => ((compress_Compress.f t377 a1_0 a1_1 a1_2 a1_3 a1_4 a1_5 a1_6).bind fun bt380 => ((api_Context.f l0).bind fun t382 => ((compress_Bits.f t382 a1_0 a1_1 a1_2 a1_3 a1_4 a1_5 a1_6).bind fun bt385 => (if bt380.2 = 0 then ((api_Context.f l0).bind fun t387 => (if bt380.1.size + a2.size ≤ 9223372036854775807 then ((compress_Expand.f t387 (bt380.1 ++ a2)).bind fun bt390 => (if bt385.2 = 0 then (if bt390.2.2.2.2.2.2.2.2 = 0 then (if (bt390.1 == a1_0 && (bt390.2.1 == a1_1 && (bt390.2.2.1.toList == a1_2.toList && (bt390.2.2.2.1.toList == a1_3.toList && (bt390.2.2.2.2.1 == a1_4 && (bt390.2.2.2.2.2.1 == a1_5 && (bt390.2.2.2.2.2.2.1 == a1_6))))))) = true then (if bt390.2.2.2.2.2.2.2.1.toList = a2.toList then (if (bt380.1.size : Int) = (wrap64 (Int.tdiv (wrap64 (bt385.1 + 7)) 8)) then (if bt385.1 ≤ 132 then (some (decide (bt385.1 ≥ 21))) else (some false)) else (some false)) else (some false)) else (some false)) else (some false)) else (some false))) else (none))) else (if bt380.2 = 1 then (if bt380.1.toList = ([] : List UInt8) then (if bt385.2 = bt380.2 then (some (bt385.1 == 0)) else (some false)) else (some false)) else (some false))))))) = some r := by rw [if_neg (show ¬ (false = true) by decide)] at H; exact H
     clear H
     have H := H1
     clear H1
     replace H := Option.bind_eq_some_iff.mp H
     obtain ⟨t377, A210, H⟩ := H
     replace H : ((compress_Compress.f t377 a1_0 a1_1 a1_2 a1_3 a1_4 a1_5 a1_6).bind fun bt380 => ((api_Context.f l0).bind fun t382 => ((compress_Bits.f t382 a1_0 a1_1 a1_2 a1_3 a1_4 a1_5 a1_6).bind fun bt385 => (if bt380.2 = 0 then ((api_Context.f l0).bind fun t387 => (if bt380.1.size + a2.size ≤ 9223372036854775807 then ((compress_Expand.f t387 (bt380.1 ++ a2)).bind fun bt390 => (if bt385.2 = 0 then (if bt390.2.2.2.2.2.2.2.2 = 0 then (if (bt390.1 == a1_0 && (bt390.2.1 == a1_1 && (bt390.2.2.1.toList == a1_2.toList && (bt390.2.2.2.1.toList == a1_3.toList && (bt390.2.2.2.2.1 == a1_4 && (bt390.2.2.2.2.2.1 == a1_5 && (bt390.2.2.2.2.2.2.1 == a1_6))))))) = true then (if bt390.2.2.2.2.2.2.2.1.toList = a2.toList then (if (bt380.1.size : Int) = (wrap64 (Int.tdiv (wrap64 (bt385.1 + 7)) 8)) then (if bt385.1 ≤ 132 then (some (decide (bt385.1 ≥ 21))) else (some false)) else (some false)) else (some false)) else (some false)) else (some false)) else (some false))) else (none))) else (if bt380.2 = 1 then (if bt380.1.toList = ([] : List UInt8) then (if bt385.2 = bt380.2 then (some (bt385.1 == 0)) else (some false)) else (some false)) else (some false)))))) = some r := H
     have A21 := Aside0.mk A210
     clear A210
     replace H := Option.bind_eq_some_iff.mp H
     obtain ⟨⟨t380, t381⟩, A220, H⟩ := H
     replace H : ((api_Context.f l0).bind fun t382 => ((compress_Bits.f t382 a1_0 a1_1 a1_2 a1_3 a1_4 a1_5 a1_6).bind fun bt385 => (if t381 = 0 then ((api_Context.f l0).bind fun t387 => (if t380.size + a2.size ≤ 9223372036854775807 then ((compress_Expand.f t387 (t380 ++ a2)).bind fun bt390 => (if bt385.2 = 0 then (if bt390.2.2.2.2.2.2.2.2 = 0 then (if (bt390.1 == a1_0 && (bt390.2.1 == a1_1 && (bt390.2.2.1.toList == a1_2.toList && (bt390.2.2.2.1.toList == a1_3.toList && (bt390.2.2.2.2.1 == a1_4 && (bt390.2.2.2.2.2.1 == a1_5 && (bt390.2.2.2.2.2.2.1 == a1_6))))))) = true then (if bt390.2.2.2.2.2.2.2.1.toList = a2.toList then (if (t380.size : Int) = (wrap64 (Int.tdiv (wrap64 (bt385.1 + 7)) 8)) then (if bt385.1 ≤ 132 then (some (decide (bt385.1 ≥ 21))) else (some false)) else (some false)) else (some false)) else (some false)) else (some false)) else (some false))) else (none))) else (if t381 = 1 then (if t380.toList = ([] : List UInt8) then (if bt385.2 = t381 then (some (bt385.1 == 0)) else (some false)) else (some false)) else (some false))))) = some r := H
     have A22 := Aside0.mk A220
     clear A220
     replace H := Option.bind_eq_some_iff.mp H
     obtain ⟨t382, A230, H⟩ := H
     replace H : ((compress_Bits.f t382 a1_0 a1_1 a1_2 a1_3 a1_4 a1_5 a1_6).bind fun bt385 => (if t381 = 0 then ((api_Context.f l0).bind fun t387 => (if t380.size + a2.size ≤ 9223372036854775807 then ((compress_Expand.f t387 (t380 ++ a2)).bind fun bt390 => (if bt385.2 = 0 then (if bt390.2.2.2.2.2.2.2.2 = 0 then (if (bt390.1 == a1_0 && (bt390.2.1 == a1_1 && (bt390.2.2.1.toList == a1_2.toList && (bt390.2.2.2.1.toList == a1_3.toList && (bt390.2.2.2.2.1 == a1_4 && (bt390.2.2.2.2.2.1 == a1_5 && (bt390.2.2.2.2.2.2.1 == a1_6))))))) = true then (if bt390.2.2.2.2.2.2.2.1.toList = a2.toList then (if (t380.size : Int) = (wrap64 (Int.tdiv (wrap64 (bt385.1 + 7)) 8)) then (if bt385.1 ≤ 132 then (some (decide (bt385.1 ≥ 21))) else (some false)) else (some false)) else (some false)) else (some false)) else (some false)) else (some false))) else (none))) else (if t381 = 1 then (if t380.toList = ([] : List UInt8) then (if bt385.2 = t381 then (some (bt385.1 == 0)) else (some false)) else (some false)) else (some false)))) = some r := H
     have A23 := Aside0.mk A230
     clear A230
     replace H := Option.bind_eq_some_iff.mp H
     obtain ⟨⟨t385, t386⟩, A240, H⟩ := H
     replace H : (if t381 = 0 then ((api_Context.f l0).bind fun t387 => (if t380.size + a2.size ≤ 9223372036854775807 then ((compress_Expand.f t387 (t380 ++ a2)).bind fun bt390 => (if t386 = 0 then (if bt390.2.2.2.2.2.2.2.2 = 0 then (if (bt390.1 == a1_0 && (bt390.2.1 == a1_1 && (bt390.2.2.1.toList == a1_2.toList && (bt390.2.2.2.1.toList == a1_3.toList && (bt390.2.2.2.2.1 == a1_4 && (bt390.2.2.2.2.2.1 == a1_5 && (bt390.2.2.2.2.2.2.1 == a1_6))))))) = true then (if bt390.2.2.2.2.2.2.2.1.toList = a2.toList then (if (t380.size : Int) = (wrap64 (Int.tdiv (wrap64 (t385 + 7)) 8)) then (if t385 ≤ 132 then (some (decide (t385 ≥ 21))) else (some false)) else (some false)) else (some false)) else (some false)) else (some false)) else (some false))) else (none))) else (if t381 = 1 then (if t380.toList = ([] : List UInt8) then (if t386 = t381 then (some (t385 == 0)) else (some false)) else (some false)) else (some false))) = some r := H
     have A24 := Aside0.mk A240
     clear A240
     by_cases c25 : t381 = 0
     ·
      rw [if_pos c25] at H
      have c25b0 : (t381 == 0) = true := beq_iff_eq.mpr c25
      have c25b1 : (t381 != 0) = false := bne_eq_false_iff_eq.mpr c25
      clear c25
      replace H := Option.bind_eq_some_iff.mp H
      obtain ⟨t387, A260, H⟩ := H
      replace H : (if t380.size + a2.size ≤ 9223372036854775807 then ((compress_Expand.f t387 (t380 ++ a2)).bind fun bt390 => (if t386 = 0 then (if bt390.2.2.2.2.2.2.2.2 = 0 then (if (bt390.1 == a1_0 && (bt390.2.1 == a1_1 && (bt390.2.2.1.toList == a1_2.toList && (bt390.2.2.2.1.toList == a1_3.toList && (bt390.2.2.2.2.1 == a1_4 && (bt390.2.2.2.2.2.1 == a1_5 && (bt390.2.2.2.2.2.2.1 == a1_6))))))) = true then (if bt390.2.2.2.2.2.2.2.1.toList = a2.toList then (if (t380.size : Int) = (wrap64 (Int.tdiv (wrap64 (t385 + 7)) 8)) then (if t385 ≤ 132 then (some (decide (t385 ≥ 21))) else (some false)) else (some false)) else (some false)) else (some false)) else (some false)) else (some false))) else (none)) = some r := H
      have A26 := Aside0.mk A260
      clear A260
      by_cases c27 : t380.size + a2.size ≤ 9223372036854775807
      ·
       rw [if_pos c27] at H
       have c27b0 := eq_true c27
       have c27b1 : decide (t380.size + a2.size ≤ 9223372036854775807) = true := decide_eq_true c27
       try have c27b2 : (9223372036854775807 < t380.size + a2.size) = False := eq_false (Nat.not_lt.2 c27)
       replace H := Option.bind_eq_some_iff.mp H
       obtain ⟨⟨t390, t391, t392, t393, t394, t395, t396, t397, t398⟩, A280, H⟩ := H
       replace H : (if t386 = 0 then (if t398 = 0 then (if (t390 == a1_0 && (t391 == a1_1 && (t392.toList == a1_2.toList && (t393.toList == a1_3.toList && (t394 == a1_4 && (t395 == a1_5 && (t396 == a1_6))))))) = true then (if t397.toList = a2.toList then (if (t380.size : Int) = (wrap64 (Int.tdiv (wrap64 (t385 + 7)) 8)) then (if t385 ≤ 132 then (some (decide (t385 ≥ 21))) else (some false)) else (some false)) else (some false)) else (some false)) else (some false)) else (some false)) = some r := H
       have A28 := Aside0.mk A280
       clear A280
       by_cases c29 : t386 = 0
       ·
        rw [if_pos c29] at H
        have c29b0 : (t386 == 0) = true := beq_iff_eq.mpr c29
        have c29b1 : (t386 != 0) = false := bne_eq_false_iff_eq.mpr c29
        clear c29
        by_cases c30 : t398 = 0
        ·
         rw [if_pos c30] at H
         have c30b0 : (t398 == 0) = true := beq_iff_eq.mpr c30
         have c30b1 : (t398 != 0) = false := bne_eq_false_iff_eq.mpr c30
         clear c30
         by_cases c31 : (t390 == a1_0 && (t391 == a1_1 && (t392.toList == a1_2.toList && (t393.toList == a1_3.toList && (t394 == a1_4 && (t395 == a1_5 && (t396 == a1_6))))))) = true
         ·
          rw [if_pos c31] at H
          have c31b0 : (t390 == a1_0 && (t391 == a1_1 && (t392.toList == a1_2.toList && (t393.toList == a1_3.toList && (t394 == a1_4 && (t395 == a1_5 && (t396 == a1_6))))))) = true := c31
          (try (have c31b1 : decide (t390 = a1_0 && (t391 == a1_1 && (t392.toList == a1_2.toList && (t393.toList == a1_3.toList && (t394 == a1_4 && (t395 == a1_5 && (t396 == a1_6))))))) = true := by simpa using c31))
          (try (have c31b2 : (t390 == a1_0 && (t391 == a1_1 && (t392.toList == a1_2.toList && (t393.toList == a1_3.toList && (t394 == a1_4 && (t395 == a1_5 && (t396 == a1_6))))))) = true := by simpa using c31))
          clear c31
          by_cases c32 : t397.toList = a2.toList
          ·
           rw [if_pos c32] at H
           have c32b0 : (t397.toList == a2.toList) = true := beq_iff_eq.mpr c32
           have c32b1 : (t397.toList != a2.toList) = false := bne_eq_false_iff_eq.mpr c32
           clear c32
           by_cases c33 : (t380.size : Int) = (wrap64 (Int.tdiv (wrap64 (t385 + 7)) 8))
           ·
            rw [if_pos c33] at H
            have c33b0 : ((t380.size : Int) == (wrap64 (Int.tdiv (wrap64 (t385 + 7)) 8))) = true := beq_iff_eq.mpr c33
            have c33b1 : ((t380.size : Int) != (wrap64 (Int.tdiv (wrap64 (t385 + 7)) 8))) = false := bne_eq_false_iff_eq.mpr c33
            clear c33
            by_cases c34 : t385 ≤ 132
            ·
             rw [if_pos c34] at H
             have c34b0 : decide (t385 ≤ 132) = true := decide_eq_true c34
             clear c34
             obtain rfl := Option.some.inj H
             try go_wp2
             have n0_ := Aside0.mk (blk_drew BK373.out)
             have n1_ := Aside0.mk (below_drew1 HB.out)
             clear BK373
             clear HB
             have BK373 := n0_
             have HB := n1_
             clear n0_ n1_
             refine start_ (n := 9) (S := fun w' => w'.cell? ⟨gb373, 0, none⟩ = some (.int .i64 a1_0) ∧ w'.cell? ⟨gb373, 1, none⟩ = some (.int .i64 a1_1) ∧ w'.cell? ⟨gb373, 2, none⟩ = some (.string a1_2) ∧ w'.cell? ⟨gb373, 3, none⟩ = some (.string a1_3) ∧ w'.cell? ⟨gb373, 4, none⟩ = some (.int .i64 a1_4) ∧ w'.cell? ⟨gb373, 5, none⟩ = some (.int .i64 a1_5) ∧ w'.cell? ⟨gb373, 6, none⟩ = some (.int .i64 a1_6)) (ds := []) #[false, false, false, false, false, false, false, false, false] (by kernel_rfl) rfl rfl ⟨(blk_cell BK373.out 0).trans rfl, (blk_cell BK373.out 1).trans rfl, (blk_cell BK373.out 2).trans rfl, (blk_cell BK373.out 3).trans rfl, (blk_cell BK373.out 4).trans rfl, (blk_cell BK373.out 5).trans rfl, (blk_cell BK373.out 6).trans rfl⟩ (fun hHeld => ?_); refine with_tabW hopmeshlaw14_CompressBack.tab5 hopmeshlaw14_CompressBack.bits5 (fun HT_ HW_ => ?_)
             generalize wc.drew = w35 at BK373 HB hHeld ⊢
             refine pu_ HT_ 0 30 (bl 9 1) ?_
             refine tk_ HT_ HW_ hHeld 2 32 (bl 9 5) ?_
             refine one_ (i := 1) (N := some 31) (bl 9 7) rfl rfl (one_of HT_.out (by kernel_rfl)) (by decide) (fun K hK => ?_)
             refine goes_ Try.func14 (by kernel_rfl) rfl #[.slice A0 l0.length c0] (by rfl) rfl rfl am_ ?_
             with_reducible refine (api_Context.calls _ _ l0 t377 _ ?side1 ?side2 A21.out).mono ?_
             (case side1 => repeat (first | exact (Kd.C_below HR0.out HB.out) | (with_reducible refine Kd.C_alloc ?_ _) | (with_reducible refine Kd.C_drewN ?_ _) | (with_reducible refine Kd.C_drew ?_)))
             (case side2 => exact HC0.out)
             rintro e w36 ⟨v378, rfl, ho0, hb⟩
             refine ⟨_, rfl, ?_⟩
             have n0_ := Aside0.mk (Kd.R_lower ho0 (below_size hb_))
             have n1_ := bk_ BK373 hb
             have n2_ := Aside0.mk (below_step hb_ hb)
             clear BK373
             clear HB
             have HO379 := n0_
             have BK373 := n1_
             have HB := n2_
             clear n0_ n1_ n2_
             (try clear hb)
             (try clear hb2)
             (try clear hk)
             (try clear hi)
             (try clear ho0)
             obtain ⟨Ao37, co37, eo37⟩ := Kd.R_slice HO379.out
             (first | subst eo37 | (injection eo37 with f1_ f2_ f3_; have f4_ := f1_.symm; have f5_ := f3_.symm; clear f1_ f2_ f3_; subst f4_; subst f5_))
             refine hK.out _ _ ⟨(blk_cell BK373.out 0).trans rfl, (blk_cell BK373.out 1).trans rfl, (blk_cell BK373.out 2).trans rfl, (blk_cell BK373.out 3).trans rfl, (blk_cell BK373.out 4).trans rfl, (blk_cell BK373.out 5).trans rfl, (blk_cell BK373.out 6).trans rfl⟩ (fun hHeld => ?_)
             clear hK K
             refine norm_ (a' := ?_) ?_ ?_
             rotate_left
             ·
              show Act.put _ (some 31) _ = _
              simp only [ap_, s0_, s1_, i64_w]
              rfl
             refine one_ (i := 3) (N := some 33) (bl 9 15) rfl rfl (one_of HT_.out (by kernel_rfl)) (by decide) (fun K hK => ?_)
             refine goes_ Try.func17 (by kernel_rfl) rfl #[.slice Ao37 t377.length co37, .agg #[.int .i64 a1_0, .int .i64 a1_1, .string a1_2, .string a1_3, .int .i64 a1_4, .int .i64 a1_5, .int .i64 a1_6]] (by rfl) rfl rfl am_ ?_
             with_reducible refine (compress_Compress.calls _ _ t377 a1_0 a1_1 a1_2 a1_3 a1_4 a1_5 a1_6 t380 t381 _ ?side1 ?side2 A22.out).mono ?_
             (case side1 => repeat (first | exact (Kd.R_reads' HO379.out).2.2 | (with_reducible refine Kd.C_alloc ?_ _) | (with_reducible refine Kd.C_drewN ?_ _) | (with_reducible refine Kd.C_drew ?_)))
             (case side2 => exact (Kd.R_reads' HO379.out).2.1)
             rintro e w38 ⟨rfl, hb⟩
             refine ⟨_, rfl, ?_⟩
             have n0_ := Aside0.mk (Kd.R_below (kr_ HO379) hb)
             have n1_ := bk_ BK373 hb
             have n2_ := Aside0.mk (below_step hb_ hb)
             clear HO379
             clear BK373
             clear HB
             have HO379 := n0_
             have BK373 := n1_
             have HB := n2_
             clear n0_ n1_ n2_
             (try clear hb)
             (try clear hb2)
             (try clear hk)
             (try clear hi)
             refine hK.out _ _ ⟨(blk_cell BK373.out 0).trans rfl, (blk_cell BK373.out 1).trans rfl, (blk_cell BK373.out 2).trans rfl, (blk_cell BK373.out 3).trans rfl, (blk_cell BK373.out 4).trans rfl, (blk_cell BK373.out 5).trans rfl, (blk_cell BK373.out 6).trans rfl⟩ (fun hHeld => ?_)
             clear hK K
             refine norm_ (a' := ?_) ?_ ?_
             rotate_left
             ·
              show Act.put _ (some 33) _ = _
              simp only [ap_, s0_, s1_, i64_w]
              rfl
             refine pu_ HT_ 4 29 (bl 9 31) ?_
             refine pu_ HT_ 5 34 (bl 9 63) ?_
             refine pu_ HT_ 6 35 (bl 9 127) ?_
             refine pu_ HT_ 7 7 (bl 9 255) ?_
             refine pu_ HT_ 8 8 (bl 9 511) ?_
             refine done_ (done_of HT_.out (by kernel_rfl)) ?_
             try go_wp2
             have n0_ := Aside0.mk (Kd.R_drew HO379.out)
             have n1_ := Aside0.mk (blk_drew BK373.out)
             have n2_ := Aside0.mk (below_drew1 HB.out)
             clear HO379
             clear BK373
             clear HB
             have HO379 := n0_
             have BK373 := n1_
             have HB := n2_
             clear n0_ n1_ n2_
             refine start_ (n := 9) (S := fun w' => w'.cell? ⟨gb373, 0, none⟩ = some (.int .i64 a1_0) ∧ w'.cell? ⟨gb373, 1, none⟩ = some (.int .i64 a1_1) ∧ w'.cell? ⟨gb373, 2, none⟩ = some (.string a1_2) ∧ w'.cell? ⟨gb373, 3, none⟩ = some (.string a1_3) ∧ w'.cell? ⟨gb373, 4, none⟩ = some (.int .i64 a1_4) ∧ w'.cell? ⟨gb373, 5, none⟩ = some (.int .i64 a1_5) ∧ w'.cell? ⟨gb373, 6, none⟩ = some (.int .i64 a1_6)) (ds := []) #[false, false, false, false, false, false, false, false, false] (by kernel_rfl) rfl rfl ⟨(blk_cell BK373.out 0).trans rfl, (blk_cell BK373.out 1).trans rfl, (blk_cell BK373.out 2).trans rfl, (blk_cell BK373.out 3).trans rfl, (blk_cell BK373.out 4).trans rfl, (blk_cell BK373.out 5).trans rfl, (blk_cell BK373.out 6).trans rfl⟩ (fun hHeld => ?_); refine with_tabW hopmeshlaw14_CompressBack.tab6 hopmeshlaw14_CompressBack.bits6 (fun HT_ HW_ => ?_)
             generalize w38.drew = w39 at HO379 BK373 HB hHeld ⊢
             refine pu_ HT_ 0 37 (bl 9 1) ?_
             refine tk_ HT_ HW_ hHeld 2 39 (bl 9 5) ?_
             refine one_ (i := 1) (N := some 38) (bl 9 7) rfl rfl (one_of HT_.out (by kernel_rfl)) (by decide) (fun K hK => ?_)
             refine goes_ Try.func14 (by kernel_rfl) rfl #[.slice A0 l0.length c0] (by rfl) rfl rfl am_ ?_
             with_reducible refine (api_Context.calls _ _ l0 t382 _ ?side1 ?side2 A23.out).mono ?_
             (case side1 => repeat (first | exact (Kd.C_below HR0.out HB.out) | (with_reducible refine Kd.C_alloc ?_ _) | (with_reducible refine Kd.C_drewN ?_ _) | (with_reducible refine Kd.C_drew ?_)))
             (case side2 => exact HC0.out)
             rintro e w40 ⟨v383, rfl, ho0, hb⟩
             refine ⟨_, rfl, ?_⟩
             have n0_ := Aside0.mk (Kd.R_elder' (kr_ HO379) (Kd.R_base ho0) hb)
             have n1_ := Aside0.mk (Kd.R_lower (Kd.R_new' ho0 (Kd.R_lt (kr_ HO379))) (below_size hb_))
             have n2_ := bk_ BK373 hb
             have n3_ := Aside0.mk (below_step hb_ hb)
             clear HO379
             clear BK373
             clear HB
             have HO379 := n0_
             have HO384 := n1_
             have BK373 := n2_
             have HB := n3_
             clear n0_ n1_ n2_ n3_
             (try clear hb)
             (try clear hb2)
             (try clear hk)
             (try clear hi)
             (try clear ho0)
             obtain ⟨Ao41, co41, eo41⟩ := Kd.R_slice HO384.out
             (first | subst eo41 | (injection eo41 with f1_ f2_ f3_; have f4_ := f1_.symm; have f5_ := f3_.symm; clear f1_ f2_ f3_; subst f4_; subst f5_))
             refine hK.out _ _ ⟨(blk_cell BK373.out 0).trans rfl, (blk_cell BK373.out 1).trans rfl, (blk_cell BK373.out 2).trans rfl, (blk_cell BK373.out 3).trans rfl, (blk_cell BK373.out 4).trans rfl, (blk_cell BK373.out 5).trans rfl, (blk_cell BK373.out 6).trans rfl⟩ (fun hHeld => ?_)
             clear hK K
             refine norm_ (a' := ?_) ?_ ?_
             rotate_left
             ·
              show Act.put _ (some 38) _ = _
              simp only [ap_, s0_, s1_, i64_w]
              rfl
             refine one_ (i := 3) (N := some 40) (bl 9 15) rfl rfl (one_of HT_.out (by kernel_rfl)) (by decide) (fun K hK => ?_)
             refine goes_ Try.func13 (by kernel_rfl) rfl #[.slice Ao41 t382.length co41, .agg #[.int .i64 a1_0, .int .i64 a1_1, .string a1_2, .string a1_3, .int .i64 a1_4, .int .i64 a1_5, .int .i64 a1_6]] (by rfl) rfl rfl am_ ?_
             with_reducible refine (compress_Bits.calls _ _ t382 a1_0 a1_1 a1_2 a1_3 a1_4 a1_5 a1_6 t385 t386 _ ?side1 ?side2 A24.out).mono ?_
             (case side1 => repeat (first | exact (Kd.R_reads' HO384.out).2.2 | (with_reducible refine Kd.C_alloc ?_ _) | (with_reducible refine Kd.C_drewN ?_ _) | (with_reducible refine Kd.C_drew ?_)))
             (case side2 => exact (Kd.R_reads' HO384.out).2.1)
             rintro e w42 ⟨rfl, hb⟩
             refine ⟨_, rfl, ?_⟩
             have n0_ := Aside0.mk (Kd.R_below (kr_ HO379) hb)
             have n1_ := Aside0.mk (Kd.R_below (kr_ HO384) hb)
             have n2_ := bk_ BK373 hb
             have n3_ := Aside0.mk (below_step hb_ hb)
             clear HO379
             clear HO384
             clear BK373
             clear HB
             have HO379 := n0_
             have HO384 := n1_
             have BK373 := n2_
             have HB := n3_
             clear n0_ n1_ n2_ n3_
             (try clear hb)
             (try clear hb2)
             (try clear hk)
             (try clear hi)
             refine hK.out _ _ ⟨(blk_cell BK373.out 0).trans rfl, (blk_cell BK373.out 1).trans rfl, (blk_cell BK373.out 2).trans rfl, (blk_cell BK373.out 3).trans rfl, (blk_cell BK373.out 4).trans rfl, (blk_cell BK373.out 5).trans rfl, (blk_cell BK373.out 6).trans rfl⟩ (fun hHeld => ?_)
             clear hK K
             refine norm_ (a' := ?_) ?_ ?_
             rotate_left
             ·
              show Act.put _ (some 40) _ = _
              simp only [ap_, s0_, s1_, i64_w]
              rfl
             refine pu_ HT_ 4 36 (bl 9 31) ?_
             refine pu_ HT_ 5 41 (bl 9 63) ?_
             refine pu_ HT_ 6 42 (bl 9 127) ?_
             refine pu_ HT_ 7 9 (bl 9 255) ?_
             refine pu_ HT_ 8 10 (bl 9 511) ?_
             refine done_ (done_of HT_.out (by kernel_rfl)) ?_
             try go_wp2_with (first | ((with_reducible refine gate_callee (f := 14) rfl ?_); refine goesL_ (some 62) rfl rfl Try.func14 (by kernel_rfl) rfl #[.slice A0 l0.length c0] rfl am_ ?_; (with_reducible refine (api_Context.calls _ _ l0 t387 _ ?side1 ?side2 A26.out).mono ?_); (case side1 => repeat (first | exact (Kd.C_below HR0.out HB.out) | (with_reducible refine Kd.C_alloc ?_ _) | (with_reducible refine Kd.C_drewN ?_ _) | (with_reducible refine Kd.C_drew ?_))); (case side2 => exact HC0.out); rintro e w43 ⟨v388, rfl, ho0, hb⟩; refine ⟨_, rfl, ?_⟩; have n0_ := Aside0.mk (Kd.R_elder' (kr_ HO379) (Kd.R_base ho0) hb); have n1_ := Aside0.mk (Kd.R_elder' (kr_ HO384) (Kd.R_base ho0) hb); have n2_ := Aside0.mk (Kd.R_lower (Kd.R_new' (Kd.R_new' ho0 (Kd.R_lt (kr_ HO379))) (Kd.R_lt (kr_ HO384))) (below_size hb_)); have n3_ := bk_ BK373 hb; have n4_ := Aside0.mk (below_step hb_ hb); clear HO379; clear HO384; clear BK373; clear HB; have HO379 := n0_; have HO384 := n1_; have HO389 := n2_; have BK373 := n3_; have HB := n4_; clear n0_ n1_ n2_ n3_ n4_; (try clear hb); (try clear hb2); (try clear hk); (try clear hi); (try clear ho0); obtain ⟨Ao44, co44, eo44⟩ := Kd.R_slice HO389.out; subst eo44) | ((with_reducible refine gate_callee (f := 24) rfl ?_); refine goesL_ (some 66) rfl rfl Try.func24 (by kernel_rfl) rfl #[.slice Ao44 t387.length co44, .string (t380 ++ a2)] rfl am_ ?_; (with_reducible refine (compress_Expand.calls _ _ t387 (t380 ++ a2) t390 t391 t392 t393 t394 t395 t396 t397 t398 _ ?side1 ?side2 A28.out).mono ?_); (case side1 => repeat (first | exact (Kd.R_reads' HO389.out).2.2 | (with_reducible refine Kd.C_alloc ?_ _) | (with_reducible refine Kd.C_drewN ?_ _) | (with_reducible refine Kd.C_drew ?_))); (case side2 => exact (Kd.R_reads' HO389.out).2.1); rintro e w45 ⟨rfl, hb⟩; refine ⟨_, rfl, ?_⟩; have n0_ := Aside0.mk (Kd.R_below (kr_ HO379) hb); have n1_ := Aside0.mk (Kd.R_below (kr_ HO384) hb); have n2_ := Aside0.mk (Kd.R_below (kr_ HO389) hb); have n3_ := bk_ BK373 hb; have n4_ := Aside0.mk (below_step hb_ hb); clear HO379; clear HO384; clear HO389; clear BK373; clear HB; have HO379 := n0_; have HO384 := n1_; have HO389 := n2_; have BK373 := n3_; have HB := n4_; clear n0_ n1_ n2_ n3_ n4_; (try clear hb); (try clear hb2); (try clear hk); (try clear hi)) | ((with_reducible refine gate_dst (N := 11) rfl ?_); refine bx_ 11 #[.int .i64 0, .int .i64 0, .string (⟨#[]⟩ : ByteArray), .string (⟨#[]⟩ : ByteArray), .int .i64 0, .int .i64 0, .int .i64 0] 24 ?_; intro gb399 hg w46 hbox hb; have n0_ := Aside0.mk (Kd.R_below (kr_ HO379) hb); have n1_ := Aside0.mk (Kd.R_below (kr_ HO384) hb); have n2_ := Aside0.mk (Kd.R_below (kr_ HO389) hb); have n3_ := bk_ BK373 hb; have n4_ := Aside0.mk (below_step hb_ hb); have n5_ := Aside0.mk (hbox); have n6_ := Aside0.mk ((by rw [hg]; exact (below_size hb_) : w.heap.size ≤ gb399)); have n7_ := Aside0.mk ((by rw [hg]; exact (below_size hb_) : w.heap.size ≤ gb399)); have n8_ := Aside0.mk ((by rw [hg]; exact Nat.ne_of_lt (blk_lt (bj_ BK373)) : gb373 ≠ gb399)); have n9_ := Aside0.mk ((by rw [hg]; exact Nat.ne_of_gt (blk_lt (bj_ BK373)) : gb399 ≠ gb373)); clear HO379; clear HO384; clear HO389; clear BK373; clear HB; have HO379 := n0_; have HO384 := n1_; have HO389 := n2_; have BK373 := n3_; have HB := n4_; have BK399 := n5_; have GW399 := n6_; have GE399 := n7_; have NB373_399 := n8_; have NB399_373 := n9_; clear n0_ n1_ n2_ n3_ n4_ n5_ n6_ n7_ n8_ n9_; clear hb hbox hg; have hnb47 := NB399_373.out; have hnc47 := NB373_399.out; have hcz48_0 := bc0 BK399; have hcz48_1 := bc1 BK399; have hcz48_2 := bc2 BK399; have hcz48_3 := bc3 BK399; have hcz48_4 := bc4 BK399; have hcz48_5 := bc5 BK399; have hcz48_6 := bc6 BK399; have hfz48_0 := blk_frozen BK399.out 0; have hfz48_1 := blk_frozen BK399.out 1; have hfz48_2 := blk_frozen BK399.out 2; have hfz48_3 := blk_frozen BK399.out 3; have hfz48_4 := blk_frozen BK399.out 4; have hfz48_5 := blk_frozen BK399.out 5; have hfz48_6 := blk_frozen BK399.out 6; have hcz49_0 := bc0 BK373; have hcz49_1 := bc1 BK373; have hcz49_2 := bc2 BK373; have hcz49_3 := bc3 BK373; have hcz49_4 := bc4 BK373; have hcz49_5 := bc5 BK373; have hcz49_6 := bc6 BK373; have hfz49_0 := blk_frozen BK373.out 0; have hfz49_1 := blk_frozen BK373.out 1; have hfz49_2 := blk_frozen BK373.out 2; have hfz49_3 := blk_frozen BK373.out 3; have hfz49_4 := blk_frozen BK373.out 4; have hfz49_5 := blk_frozen BK373.out 5; have hfz49_6 := blk_frozen BK373.out 6))
             go_ret
             exact ⟨er_, hb_⟩
            ·
             rw [if_neg c34] at H
             have c34b0 : decide (t385 ≤ 132) = false := decide_eq_false c34
             clear c34
             obtain rfl := Option.some.inj H
             try go_wp2
             have n0_ := Aside0.mk (blk_drew BK373.out)
             have n1_ := Aside0.mk (below_drew1 HB.out)
             clear BK373
             clear HB
             have BK373 := n0_
             have HB := n1_
             clear n0_ n1_
             refine start_ (n := 9) (S := fun w' => w'.cell? ⟨gb373, 0, none⟩ = some (.int .i64 a1_0) ∧ w'.cell? ⟨gb373, 1, none⟩ = some (.int .i64 a1_1) ∧ w'.cell? ⟨gb373, 2, none⟩ = some (.string a1_2) ∧ w'.cell? ⟨gb373, 3, none⟩ = some (.string a1_3) ∧ w'.cell? ⟨gb373, 4, none⟩ = some (.int .i64 a1_4) ∧ w'.cell? ⟨gb373, 5, none⟩ = some (.int .i64 a1_5) ∧ w'.cell? ⟨gb373, 6, none⟩ = some (.int .i64 a1_6)) (ds := []) #[false, false, false, false, false, false, false, false, false] (by kernel_rfl) rfl rfl ⟨(blk_cell BK373.out 0).trans rfl, (blk_cell BK373.out 1).trans rfl, (blk_cell BK373.out 2).trans rfl, (blk_cell BK373.out 3).trans rfl, (blk_cell BK373.out 4).trans rfl, (blk_cell BK373.out 5).trans rfl, (blk_cell BK373.out 6).trans rfl⟩ (fun hHeld => ?_); refine with_tabW hopmeshlaw14_CompressBack.tab5 hopmeshlaw14_CompressBack.bits5 (fun HT_ HW_ => ?_)
             generalize wc.drew = w50 at BK373 HB hHeld ⊢
             refine pu_ HT_ 0 30 (bl 9 1) ?_
             refine tk_ HT_ HW_ hHeld 2 32 (bl 9 5) ?_
             refine one_ (i := 1) (N := some 31) (bl 9 7) rfl rfl (one_of HT_.out (by kernel_rfl)) (by decide) (fun K hK => ?_)
             refine goes_ Try.func14 (by kernel_rfl) rfl #[.slice A0 l0.length c0] (by rfl) rfl rfl am_ ?_
             with_reducible refine (api_Context.calls _ _ l0 t377 _ ?side1 ?side2 A21.out).mono ?_
             (case side1 => repeat (first | exact (Kd.C_below HR0.out HB.out) | (with_reducible refine Kd.C_alloc ?_ _) | (with_reducible refine Kd.C_drewN ?_ _) | (with_reducible refine Kd.C_drew ?_)))
             (case side2 => exact HC0.out)
             rintro e w51 ⟨v378, rfl, ho0, hb⟩
             refine ⟨_, rfl, ?_⟩
             have n0_ := Aside0.mk (Kd.R_lower ho0 (below_size hb_))
             have n1_ := bk_ BK373 hb
             have n2_ := Aside0.mk (below_step hb_ hb)
             clear BK373
             clear HB
             have HO379 := n0_
             have BK373 := n1_
             have HB := n2_
             clear n0_ n1_ n2_
             (try clear hb)
             (try clear hb2)
             (try clear hk)
             (try clear hi)
             (try clear ho0)
             obtain ⟨Ao52, co52, eo52⟩ := Kd.R_slice HO379.out
             (first | subst eo52 | (injection eo52 with f1_ f2_ f3_; have f4_ := f1_.symm; have f5_ := f3_.symm; clear f1_ f2_ f3_; subst f4_; subst f5_))
             refine hK.out _ _ ⟨(blk_cell BK373.out 0).trans rfl, (blk_cell BK373.out 1).trans rfl, (blk_cell BK373.out 2).trans rfl, (blk_cell BK373.out 3).trans rfl, (blk_cell BK373.out 4).trans rfl, (blk_cell BK373.out 5).trans rfl, (blk_cell BK373.out 6).trans rfl⟩ (fun hHeld => ?_)
             clear hK K
             refine norm_ (a' := ?_) ?_ ?_
             rotate_left
             ·
              show Act.put _ (some 31) _ = _
              simp only [ap_, s0_, s1_, i64_w]
              rfl
             refine one_ (i := 3) (N := some 33) (bl 9 15) rfl rfl (one_of HT_.out (by kernel_rfl)) (by decide) (fun K hK => ?_)
             refine goes_ Try.func17 (by kernel_rfl) rfl #[.slice Ao52 t377.length co52, .agg #[.int .i64 a1_0, .int .i64 a1_1, .string a1_2, .string a1_3, .int .i64 a1_4, .int .i64 a1_5, .int .i64 a1_6]] (by rfl) rfl rfl am_ ?_
             with_reducible refine (compress_Compress.calls _ _ t377 a1_0 a1_1 a1_2 a1_3 a1_4 a1_5 a1_6 t380 t381 _ ?side1 ?side2 A22.out).mono ?_
             (case side1 => repeat (first | exact (Kd.R_reads' HO379.out).2.2 | (with_reducible refine Kd.C_alloc ?_ _) | (with_reducible refine Kd.C_drewN ?_ _) | (with_reducible refine Kd.C_drew ?_)))
             (case side2 => exact (Kd.R_reads' HO379.out).2.1)
             rintro e w53 ⟨rfl, hb⟩
             refine ⟨_, rfl, ?_⟩
             have n0_ := Aside0.mk (Kd.R_below (kr_ HO379) hb)
             have n1_ := bk_ BK373 hb
             have n2_ := Aside0.mk (below_step hb_ hb)
             clear HO379
             clear BK373
             clear HB
             have HO379 := n0_
             have BK373 := n1_
             have HB := n2_
             clear n0_ n1_ n2_
             (try clear hb)
             (try clear hb2)
             (try clear hk)
             (try clear hi)
             refine hK.out _ _ ⟨(blk_cell BK373.out 0).trans rfl, (blk_cell BK373.out 1).trans rfl, (blk_cell BK373.out 2).trans rfl, (blk_cell BK373.out 3).trans rfl, (blk_cell BK373.out 4).trans rfl, (blk_cell BK373.out 5).trans rfl, (blk_cell BK373.out 6).trans rfl⟩ (fun hHeld => ?_)
             clear hK K
             refine norm_ (a' := ?_) ?_ ?_
             rotate_left
             ·
              show Act.put _ (some 33) _ = _
              simp only [ap_, s0_, s1_, i64_w]
              rfl
             refine pu_ HT_ 4 29 (bl 9 31) ?_
             refine pu_ HT_ 5 34 (bl 9 63) ?_
             refine pu_ HT_ 6 35 (bl 9 127) ?_
             refine pu_ HT_ 7 7 (bl 9 255) ?_
             refine pu_ HT_ 8 8 (bl 9 511) ?_
             refine done_ (done_of HT_.out (by kernel_rfl)) ?_
             try go_wp2
             have n0_ := Aside0.mk (Kd.R_drew HO379.out)
             have n1_ := Aside0.mk (blk_drew BK373.out)
             have n2_ := Aside0.mk (below_drew1 HB.out)
             clear HO379
             clear BK373
             clear HB
             have HO379 := n0_
             have BK373 := n1_
             have HB := n2_
             clear n0_ n1_ n2_
             refine start_ (n := 9) (S := fun w' => w'.cell? ⟨gb373, 0, none⟩ = some (.int .i64 a1_0) ∧ w'.cell? ⟨gb373, 1, none⟩ = some (.int .i64 a1_1) ∧ w'.cell? ⟨gb373, 2, none⟩ = some (.string a1_2) ∧ w'.cell? ⟨gb373, 3, none⟩ = some (.string a1_3) ∧ w'.cell? ⟨gb373, 4, none⟩ = some (.int .i64 a1_4) ∧ w'.cell? ⟨gb373, 5, none⟩ = some (.int .i64 a1_5) ∧ w'.cell? ⟨gb373, 6, none⟩ = some (.int .i64 a1_6)) (ds := []) #[false, false, false, false, false, false, false, false, false] (by kernel_rfl) rfl rfl ⟨(blk_cell BK373.out 0).trans rfl, (blk_cell BK373.out 1).trans rfl, (blk_cell BK373.out 2).trans rfl, (blk_cell BK373.out 3).trans rfl, (blk_cell BK373.out 4).trans rfl, (blk_cell BK373.out 5).trans rfl, (blk_cell BK373.out 6).trans rfl⟩ (fun hHeld => ?_); refine with_tabW hopmeshlaw14_CompressBack.tab6 hopmeshlaw14_CompressBack.bits6 (fun HT_ HW_ => ?_)
             generalize w53.drew = w54 at HO379 BK373 HB hHeld ⊢
             refine pu_ HT_ 0 37 (bl 9 1) ?_
             refine tk_ HT_ HW_ hHeld 2 39 (bl 9 5) ?_
             refine one_ (i := 1) (N := some 38) (bl 9 7) rfl rfl (one_of HT_.out (by kernel_rfl)) (by decide) (fun K hK => ?_)
             refine goes_ Try.func14 (by kernel_rfl) rfl #[.slice A0 l0.length c0] (by rfl) rfl rfl am_ ?_
             with_reducible refine (api_Context.calls _ _ l0 t382 _ ?side1 ?side2 A23.out).mono ?_
             (case side1 => repeat (first | exact (Kd.C_below HR0.out HB.out) | (with_reducible refine Kd.C_alloc ?_ _) | (with_reducible refine Kd.C_drewN ?_ _) | (with_reducible refine Kd.C_drew ?_)))
             (case side2 => exact HC0.out)
             rintro e w55 ⟨v383, rfl, ho0, hb⟩
             refine ⟨_, rfl, ?_⟩
             have n0_ := Aside0.mk (Kd.R_elder' (kr_ HO379) (Kd.R_base ho0) hb)
             have n1_ := Aside0.mk (Kd.R_lower (Kd.R_new' ho0 (Kd.R_lt (kr_ HO379))) (below_size hb_))
             have n2_ := bk_ BK373 hb
             have n3_ := Aside0.mk (below_step hb_ hb)
             clear HO379
             clear BK373
             clear HB
             have HO379 := n0_
             have HO384 := n1_
             have BK373 := n2_
             have HB := n3_
             clear n0_ n1_ n2_ n3_
             (try clear hb)
             (try clear hb2)
             (try clear hk)
             (try clear hi)
             (try clear ho0)
             obtain ⟨Ao56, co56, eo56⟩ := Kd.R_slice HO384.out
             (first | subst eo56 | (injection eo56 with f1_ f2_ f3_; have f4_ := f1_.symm; have f5_ := f3_.symm; clear f1_ f2_ f3_; subst f4_; subst f5_))
             refine hK.out _ _ ⟨(blk_cell BK373.out 0).trans rfl, (blk_cell BK373.out 1).trans rfl, (blk_cell BK373.out 2).trans rfl, (blk_cell BK373.out 3).trans rfl, (blk_cell BK373.out 4).trans rfl, (blk_cell BK373.out 5).trans rfl, (blk_cell BK373.out 6).trans rfl⟩ (fun hHeld => ?_)
             clear hK K
             refine norm_ (a' := ?_) ?_ ?_
             rotate_left
             ·
              show Act.put _ (some 38) _ = _
              simp only [ap_, s0_, s1_, i64_w]
              rfl
             refine one_ (i := 3) (N := some 40) (bl 9 15) rfl rfl (one_of HT_.out (by kernel_rfl)) (by decide) (fun K hK => ?_)
             refine goes_ Try.func13 (by kernel_rfl) rfl #[.slice Ao56 t382.length co56, .agg #[.int .i64 a1_0, .int .i64 a1_1, .string a1_2, .string a1_3, .int .i64 a1_4, .int .i64 a1_5, .int .i64 a1_6]] (by rfl) rfl rfl am_ ?_
             with_reducible refine (compress_Bits.calls _ _ t382 a1_0 a1_1 a1_2 a1_3 a1_4 a1_5 a1_6 t385 t386 _ ?side1 ?side2 A24.out).mono ?_
             (case side1 => repeat (first | exact (Kd.R_reads' HO384.out).2.2 | (with_reducible refine Kd.C_alloc ?_ _) | (with_reducible refine Kd.C_drewN ?_ _) | (with_reducible refine Kd.C_drew ?_)))
             (case side2 => exact (Kd.R_reads' HO384.out).2.1)
             rintro e w57 ⟨rfl, hb⟩
             refine ⟨_, rfl, ?_⟩
             have n0_ := Aside0.mk (Kd.R_below (kr_ HO379) hb)
             have n1_ := Aside0.mk (Kd.R_below (kr_ HO384) hb)
             have n2_ := bk_ BK373 hb
             have n3_ := Aside0.mk (below_step hb_ hb)
             clear HO379
             clear HO384
             clear BK373
             clear HB
             have HO379 := n0_
             have HO384 := n1_
             have BK373 := n2_
             have HB := n3_
             clear n0_ n1_ n2_ n3_
             (try clear hb)
             (try clear hb2)
             (try clear hk)
             (try clear hi)
             refine hK.out _ _ ⟨(blk_cell BK373.out 0).trans rfl, (blk_cell BK373.out 1).trans rfl, (blk_cell BK373.out 2).trans rfl, (blk_cell BK373.out 3).trans rfl, (blk_cell BK373.out 4).trans rfl, (blk_cell BK373.out 5).trans rfl, (blk_cell BK373.out 6).trans rfl⟩ (fun hHeld => ?_)
             clear hK K
             refine norm_ (a' := ?_) ?_ ?_
             rotate_left
             ·
              show Act.put _ (some 40) _ = _
              simp only [ap_, s0_, s1_, i64_w]
              rfl
             refine pu_ HT_ 4 36 (bl 9 31) ?_
             refine pu_ HT_ 5 41 (bl 9 63) ?_
             refine pu_ HT_ 6 42 (bl 9 127) ?_
             refine pu_ HT_ 7 9 (bl 9 255) ?_
             refine pu_ HT_ 8 10 (bl 9 511) ?_
             refine done_ (done_of HT_.out (by kernel_rfl)) ?_
             try go_wp2_with (first | ((with_reducible refine gate_callee (f := 14) rfl ?_); refine goesL_ (some 62) rfl rfl Try.func14 (by kernel_rfl) rfl #[.slice A0 l0.length c0] rfl am_ ?_; (with_reducible refine (api_Context.calls _ _ l0 t387 _ ?side1 ?side2 A26.out).mono ?_); (case side1 => repeat (first | exact (Kd.C_below HR0.out HB.out) | (with_reducible refine Kd.C_alloc ?_ _) | (with_reducible refine Kd.C_drewN ?_ _) | (with_reducible refine Kd.C_drew ?_))); (case side2 => exact HC0.out); rintro e w58 ⟨v388, rfl, ho0, hb⟩; refine ⟨_, rfl, ?_⟩; have n0_ := Aside0.mk (Kd.R_elder' (kr_ HO379) (Kd.R_base ho0) hb); have n1_ := Aside0.mk (Kd.R_elder' (kr_ HO384) (Kd.R_base ho0) hb); have n2_ := Aside0.mk (Kd.R_lower (Kd.R_new' (Kd.R_new' ho0 (Kd.R_lt (kr_ HO379))) (Kd.R_lt (kr_ HO384))) (below_size hb_)); have n3_ := bk_ BK373 hb; have n4_ := Aside0.mk (below_step hb_ hb); clear HO379; clear HO384; clear BK373; clear HB; have HO379 := n0_; have HO384 := n1_; have HO389 := n2_; have BK373 := n3_; have HB := n4_; clear n0_ n1_ n2_ n3_ n4_; (try clear hb); (try clear hb2); (try clear hk); (try clear hi); (try clear ho0); obtain ⟨Ao59, co59, eo59⟩ := Kd.R_slice HO389.out; subst eo59) | ((with_reducible refine gate_callee (f := 24) rfl ?_); refine goesL_ (some 66) rfl rfl Try.func24 (by kernel_rfl) rfl #[.slice Ao59 t387.length co59, .string (t380 ++ a2)] rfl am_ ?_; (with_reducible refine (compress_Expand.calls _ _ t387 (t380 ++ a2) t390 t391 t392 t393 t394 t395 t396 t397 t398 _ ?side1 ?side2 A28.out).mono ?_); (case side1 => repeat (first | exact (Kd.R_reads' HO389.out).2.2 | (with_reducible refine Kd.C_alloc ?_ _) | (with_reducible refine Kd.C_drewN ?_ _) | (with_reducible refine Kd.C_drew ?_))); (case side2 => exact (Kd.R_reads' HO389.out).2.1); rintro e w60 ⟨rfl, hb⟩; refine ⟨_, rfl, ?_⟩; have n0_ := Aside0.mk (Kd.R_below (kr_ HO379) hb); have n1_ := Aside0.mk (Kd.R_below (kr_ HO384) hb); have n2_ := Aside0.mk (Kd.R_below (kr_ HO389) hb); have n3_ := bk_ BK373 hb; have n4_ := Aside0.mk (below_step hb_ hb); clear HO379; clear HO384; clear HO389; clear BK373; clear HB; have HO379 := n0_; have HO384 := n1_; have HO389 := n2_; have BK373 := n3_; have HB := n4_; clear n0_ n1_ n2_ n3_ n4_; (try clear hb); (try clear hb2); (try clear hk); (try clear hi)) | ((with_reducible refine gate_dst (N := 11) rfl ?_); refine bx_ 11 #[.int .i64 0, .int .i64 0, .string (⟨#[]⟩ : ByteArray), .string (⟨#[]⟩ : ByteArray), .int .i64 0, .int .i64 0, .int .i64 0] 24 ?_; intro gb399 hg w61 hbox hb; have n0_ := Aside0.mk (Kd.R_below (kr_ HO379) hb); have n1_ := Aside0.mk (Kd.R_below (kr_ HO384) hb); have n2_ := Aside0.mk (Kd.R_below (kr_ HO389) hb); have n3_ := bk_ BK373 hb; have n4_ := Aside0.mk (below_step hb_ hb); have n5_ := Aside0.mk (hbox); have n6_ := Aside0.mk ((by rw [hg]; exact (below_size hb_) : w.heap.size ≤ gb399)); have n7_ := Aside0.mk ((by rw [hg]; exact (below_size hb_) : w.heap.size ≤ gb399)); have n8_ := Aside0.mk ((by rw [hg]; exact Nat.ne_of_lt (blk_lt (bj_ BK373)) : gb373 ≠ gb399)); have n9_ := Aside0.mk ((by rw [hg]; exact Nat.ne_of_gt (blk_lt (bj_ BK373)) : gb399 ≠ gb373)); clear HO379; clear HO384; clear HO389; clear BK373; clear HB; have HO379 := n0_; have HO384 := n1_; have HO389 := n2_; have BK373 := n3_; have HB := n4_; have BK399 := n5_; have GW399 := n6_; have GE399 := n7_; have NB373_399 := n8_; have NB399_373 := n9_; clear n0_ n1_ n2_ n3_ n4_ n5_ n6_ n7_ n8_ n9_; clear hb hbox hg; have hnb62 := NB399_373.out; have hnc62 := NB373_399.out; have hcz63_0 := bc0 BK399; have hcz63_1 := bc1 BK399; have hcz63_2 := bc2 BK399; have hcz63_3 := bc3 BK399; have hcz63_4 := bc4 BK399; have hcz63_5 := bc5 BK399; have hcz63_6 := bc6 BK399; have hfz63_0 := blk_frozen BK399.out 0; have hfz63_1 := blk_frozen BK399.out 1; have hfz63_2 := blk_frozen BK399.out 2; have hfz63_3 := blk_frozen BK399.out 3; have hfz63_4 := blk_frozen BK399.out 4; have hfz63_5 := blk_frozen BK399.out 5; have hfz63_6 := blk_frozen BK399.out 6; have hcz64_0 := bc0 BK373; have hcz64_1 := bc1 BK373; have hcz64_2 := bc2 BK373; have hcz64_3 := bc3 BK373; have hcz64_4 := bc4 BK373; have hcz64_5 := bc5 BK373; have hcz64_6 := bc6 BK373; have hfz64_0 := blk_frozen BK373.out 0; have hfz64_1 := blk_frozen BK373.out 1; have hfz64_2 := blk_frozen BK373.out 2; have hfz64_3 := blk_frozen BK373.out 3; have hfz64_4 := blk_frozen BK373.out 4; have hfz64_5 := blk_frozen BK373.out 5; have hfz64_6 := blk_frozen BK373.out 6))
             go_ret
             exact ⟨er_, hb_⟩
           ·
            rw [if_neg c33] at H
            have c33b0 : ((t380.size : Int) == (wrap64 (Int.tdiv (wrap64 (t385 + 7)) 8))) = false := beq_eq_false_iff_ne.mpr c33
            have c33b1 : ((t380.size : Int) != (wrap64 (Int.tdiv (wrap64 (t385 + 7)) 8))) = true := bne_iff_ne.mpr c33
            obtain rfl := Option.some.inj H
            try go_wp2
            have n0_ := Aside0.mk (blk_drew BK373.out)
            have n1_ := Aside0.mk (below_drew1 HB.out)
            clear BK373
            clear HB
            have BK373 := n0_
            have HB := n1_
            clear n0_ n1_
            refine start_ (n := 9) (S := fun w' => w'.cell? ⟨gb373, 0, none⟩ = some (.int .i64 a1_0) ∧ w'.cell? ⟨gb373, 1, none⟩ = some (.int .i64 a1_1) ∧ w'.cell? ⟨gb373, 2, none⟩ = some (.string a1_2) ∧ w'.cell? ⟨gb373, 3, none⟩ = some (.string a1_3) ∧ w'.cell? ⟨gb373, 4, none⟩ = some (.int .i64 a1_4) ∧ w'.cell? ⟨gb373, 5, none⟩ = some (.int .i64 a1_5) ∧ w'.cell? ⟨gb373, 6, none⟩ = some (.int .i64 a1_6)) (ds := []) #[false, false, false, false, false, false, false, false, false] (by kernel_rfl) rfl rfl ⟨(blk_cell BK373.out 0).trans rfl, (blk_cell BK373.out 1).trans rfl, (blk_cell BK373.out 2).trans rfl, (blk_cell BK373.out 3).trans rfl, (blk_cell BK373.out 4).trans rfl, (blk_cell BK373.out 5).trans rfl, (blk_cell BK373.out 6).trans rfl⟩ (fun hHeld => ?_); refine with_tabW hopmeshlaw14_CompressBack.tab5 hopmeshlaw14_CompressBack.bits5 (fun HT_ HW_ => ?_)
            generalize wc.drew = w65 at BK373 HB hHeld ⊢
            refine pu_ HT_ 0 30 (bl 9 1) ?_
            refine tk_ HT_ HW_ hHeld 2 32 (bl 9 5) ?_
            refine one_ (i := 1) (N := some 31) (bl 9 7) rfl rfl (one_of HT_.out (by kernel_rfl)) (by decide) (fun K hK => ?_)
            refine goes_ Try.func14 (by kernel_rfl) rfl #[.slice A0 l0.length c0] (by rfl) rfl rfl am_ ?_
            with_reducible refine (api_Context.calls _ _ l0 t377 _ ?side1 ?side2 A21.out).mono ?_
            (case side1 => repeat (first | exact (Kd.C_below HR0.out HB.out) | (with_reducible refine Kd.C_alloc ?_ _) | (with_reducible refine Kd.C_drewN ?_ _) | (with_reducible refine Kd.C_drew ?_)))
            (case side2 => exact HC0.out)
            rintro e w66 ⟨v378, rfl, ho0, hb⟩
            refine ⟨_, rfl, ?_⟩
            have n0_ := Aside0.mk (Kd.R_lower ho0 (below_size hb_))
            have n1_ := bk_ BK373 hb
            have n2_ := Aside0.mk (below_step hb_ hb)
            clear BK373
            clear HB
            have HO379 := n0_
            have BK373 := n1_
            have HB := n2_
            clear n0_ n1_ n2_
            (try clear hb)
            (try clear hb2)
            (try clear hk)
            (try clear hi)
            (try clear ho0)
            obtain ⟨Ao67, co67, eo67⟩ := Kd.R_slice HO379.out
            (first | subst eo67 | (injection eo67 with f1_ f2_ f3_; have f4_ := f1_.symm; have f5_ := f3_.symm; clear f1_ f2_ f3_; subst f4_; subst f5_))
            refine hK.out _ _ ⟨(blk_cell BK373.out 0).trans rfl, (blk_cell BK373.out 1).trans rfl, (blk_cell BK373.out 2).trans rfl, (blk_cell BK373.out 3).trans rfl, (blk_cell BK373.out 4).trans rfl, (blk_cell BK373.out 5).trans rfl, (blk_cell BK373.out 6).trans rfl⟩ (fun hHeld => ?_)
            clear hK K
            refine norm_ (a' := ?_) ?_ ?_
            rotate_left
            ·
             show Act.put _ (some 31) _ = _
             simp only [ap_, s0_, s1_, i64_w]
             rfl
            refine one_ (i := 3) (N := some 33) (bl 9 15) rfl rfl (one_of HT_.out (by kernel_rfl)) (by decide) (fun K hK => ?_)
            refine goes_ Try.func17 (by kernel_rfl) rfl #[.slice Ao67 t377.length co67, .agg #[.int .i64 a1_0, .int .i64 a1_1, .string a1_2, .string a1_3, .int .i64 a1_4, .int .i64 a1_5, .int .i64 a1_6]] (by rfl) rfl rfl am_ ?_
            with_reducible refine (compress_Compress.calls _ _ t377 a1_0 a1_1 a1_2 a1_3 a1_4 a1_5 a1_6 t380 t381 _ ?side1 ?side2 A22.out).mono ?_
            (case side1 => repeat (first | exact (Kd.R_reads' HO379.out).2.2 | (with_reducible refine Kd.C_alloc ?_ _) | (with_reducible refine Kd.C_drewN ?_ _) | (with_reducible refine Kd.C_drew ?_)))
            (case side2 => exact (Kd.R_reads' HO379.out).2.1)
            rintro e w68 ⟨rfl, hb⟩
            refine ⟨_, rfl, ?_⟩
            have n0_ := Aside0.mk (Kd.R_below (kr_ HO379) hb)
            have n1_ := bk_ BK373 hb
            have n2_ := Aside0.mk (below_step hb_ hb)
            clear HO379
            clear BK373
            clear HB
            have HO379 := n0_
            have BK373 := n1_
            have HB := n2_
            clear n0_ n1_ n2_
            (try clear hb)
            (try clear hb2)
            (try clear hk)
            (try clear hi)
            refine hK.out _ _ ⟨(blk_cell BK373.out 0).trans rfl, (blk_cell BK373.out 1).trans rfl, (blk_cell BK373.out 2).trans rfl, (blk_cell BK373.out 3).trans rfl, (blk_cell BK373.out 4).trans rfl, (blk_cell BK373.out 5).trans rfl, (blk_cell BK373.out 6).trans rfl⟩ (fun hHeld => ?_)
            clear hK K
            refine norm_ (a' := ?_) ?_ ?_
            rotate_left
            ·
             show Act.put _ (some 33) _ = _
             simp only [ap_, s0_, s1_, i64_w]
             rfl
            refine pu_ HT_ 4 29 (bl 9 31) ?_
            refine pu_ HT_ 5 34 (bl 9 63) ?_
            refine pu_ HT_ 6 35 (bl 9 127) ?_
            refine pu_ HT_ 7 7 (bl 9 255) ?_
            refine pu_ HT_ 8 8 (bl 9 511) ?_
            refine done_ (done_of HT_.out (by kernel_rfl)) ?_
            try go_wp2
            have n0_ := Aside0.mk (Kd.R_drew HO379.out)
            have n1_ := Aside0.mk (blk_drew BK373.out)
            have n2_ := Aside0.mk (below_drew1 HB.out)
            clear HO379
            clear BK373
            clear HB
            have HO379 := n0_
            have BK373 := n1_
            have HB := n2_
            clear n0_ n1_ n2_
            refine start_ (n := 9) (S := fun w' => w'.cell? ⟨gb373, 0, none⟩ = some (.int .i64 a1_0) ∧ w'.cell? ⟨gb373, 1, none⟩ = some (.int .i64 a1_1) ∧ w'.cell? ⟨gb373, 2, none⟩ = some (.string a1_2) ∧ w'.cell? ⟨gb373, 3, none⟩ = some (.string a1_3) ∧ w'.cell? ⟨gb373, 4, none⟩ = some (.int .i64 a1_4) ∧ w'.cell? ⟨gb373, 5, none⟩ = some (.int .i64 a1_5) ∧ w'.cell? ⟨gb373, 6, none⟩ = some (.int .i64 a1_6)) (ds := []) #[false, false, false, false, false, false, false, false, false] (by kernel_rfl) rfl rfl ⟨(blk_cell BK373.out 0).trans rfl, (blk_cell BK373.out 1).trans rfl, (blk_cell BK373.out 2).trans rfl, (blk_cell BK373.out 3).trans rfl, (blk_cell BK373.out 4).trans rfl, (blk_cell BK373.out 5).trans rfl, (blk_cell BK373.out 6).trans rfl⟩ (fun hHeld => ?_); refine with_tabW hopmeshlaw14_CompressBack.tab6 hopmeshlaw14_CompressBack.bits6 (fun HT_ HW_ => ?_)
            generalize w68.drew = w69 at HO379 BK373 HB hHeld ⊢
            refine pu_ HT_ 0 37 (bl 9 1) ?_
            refine tk_ HT_ HW_ hHeld 2 39 (bl 9 5) ?_
            refine one_ (i := 1) (N := some 38) (bl 9 7) rfl rfl (one_of HT_.out (by kernel_rfl)) (by decide) (fun K hK => ?_)
            refine goes_ Try.func14 (by kernel_rfl) rfl #[.slice A0 l0.length c0] (by rfl) rfl rfl am_ ?_
            with_reducible refine (api_Context.calls _ _ l0 t382 _ ?side1 ?side2 A23.out).mono ?_
            (case side1 => repeat (first | exact (Kd.C_below HR0.out HB.out) | (with_reducible refine Kd.C_alloc ?_ _) | (with_reducible refine Kd.C_drewN ?_ _) | (with_reducible refine Kd.C_drew ?_)))
            (case side2 => exact HC0.out)
            rintro e w70 ⟨v383, rfl, ho0, hb⟩
            refine ⟨_, rfl, ?_⟩
            have n0_ := Aside0.mk (Kd.R_elder' (kr_ HO379) (Kd.R_base ho0) hb)
            have n1_ := Aside0.mk (Kd.R_lower (Kd.R_new' ho0 (Kd.R_lt (kr_ HO379))) (below_size hb_))
            have n2_ := bk_ BK373 hb
            have n3_ := Aside0.mk (below_step hb_ hb)
            clear HO379
            clear BK373
            clear HB
            have HO379 := n0_
            have HO384 := n1_
            have BK373 := n2_
            have HB := n3_
            clear n0_ n1_ n2_ n3_
            (try clear hb)
            (try clear hb2)
            (try clear hk)
            (try clear hi)
            (try clear ho0)
            obtain ⟨Ao71, co71, eo71⟩ := Kd.R_slice HO384.out
            (first | subst eo71 | (injection eo71 with f1_ f2_ f3_; have f4_ := f1_.symm; have f5_ := f3_.symm; clear f1_ f2_ f3_; subst f4_; subst f5_))
            refine hK.out _ _ ⟨(blk_cell BK373.out 0).trans rfl, (blk_cell BK373.out 1).trans rfl, (blk_cell BK373.out 2).trans rfl, (blk_cell BK373.out 3).trans rfl, (blk_cell BK373.out 4).trans rfl, (blk_cell BK373.out 5).trans rfl, (blk_cell BK373.out 6).trans rfl⟩ (fun hHeld => ?_)
            clear hK K
            refine norm_ (a' := ?_) ?_ ?_
            rotate_left
            ·
             show Act.put _ (some 38) _ = _
             simp only [ap_, s0_, s1_, i64_w]
             rfl
            refine one_ (i := 3) (N := some 40) (bl 9 15) rfl rfl (one_of HT_.out (by kernel_rfl)) (by decide) (fun K hK => ?_)
            refine goes_ Try.func13 (by kernel_rfl) rfl #[.slice Ao71 t382.length co71, .agg #[.int .i64 a1_0, .int .i64 a1_1, .string a1_2, .string a1_3, .int .i64 a1_4, .int .i64 a1_5, .int .i64 a1_6]] (by rfl) rfl rfl am_ ?_
            with_reducible refine (compress_Bits.calls _ _ t382 a1_0 a1_1 a1_2 a1_3 a1_4 a1_5 a1_6 t385 t386 _ ?side1 ?side2 A24.out).mono ?_
            (case side1 => repeat (first | exact (Kd.R_reads' HO384.out).2.2 | (with_reducible refine Kd.C_alloc ?_ _) | (with_reducible refine Kd.C_drewN ?_ _) | (with_reducible refine Kd.C_drew ?_)))
            (case side2 => exact (Kd.R_reads' HO384.out).2.1)
            rintro e w72 ⟨rfl, hb⟩
            refine ⟨_, rfl, ?_⟩
            have n0_ := Aside0.mk (Kd.R_below (kr_ HO379) hb)
            have n1_ := Aside0.mk (Kd.R_below (kr_ HO384) hb)
            have n2_ := bk_ BK373 hb
            have n3_ := Aside0.mk (below_step hb_ hb)
            clear HO379
            clear HO384
            clear BK373
            clear HB
            have HO379 := n0_
            have HO384 := n1_
            have BK373 := n2_
            have HB := n3_
            clear n0_ n1_ n2_ n3_
            (try clear hb)
            (try clear hb2)
            (try clear hk)
            (try clear hi)
            refine hK.out _ _ ⟨(blk_cell BK373.out 0).trans rfl, (blk_cell BK373.out 1).trans rfl, (blk_cell BK373.out 2).trans rfl, (blk_cell BK373.out 3).trans rfl, (blk_cell BK373.out 4).trans rfl, (blk_cell BK373.out 5).trans rfl, (blk_cell BK373.out 6).trans rfl⟩ (fun hHeld => ?_)
            clear hK K
            refine norm_ (a' := ?_) ?_ ?_
            rotate_left
            ·
             show Act.put _ (some 40) _ = _
             simp only [ap_, s0_, s1_, i64_w]
             rfl
            refine pu_ HT_ 4 36 (bl 9 31) ?_
            refine pu_ HT_ 5 41 (bl 9 63) ?_
            refine pu_ HT_ 6 42 (bl 9 127) ?_
            refine pu_ HT_ 7 9 (bl 9 255) ?_
            refine pu_ HT_ 8 10 (bl 9 511) ?_
            refine done_ (done_of HT_.out (by kernel_rfl)) ?_
            try go_wp2_with (first | ((with_reducible refine gate_callee (f := 14) rfl ?_); refine goesL_ (some 62) rfl rfl Try.func14 (by kernel_rfl) rfl #[.slice A0 l0.length c0] rfl am_ ?_; (with_reducible refine (api_Context.calls _ _ l0 t387 _ ?side1 ?side2 A26.out).mono ?_); (case side1 => repeat (first | exact (Kd.C_below HR0.out HB.out) | (with_reducible refine Kd.C_alloc ?_ _) | (with_reducible refine Kd.C_drewN ?_ _) | (with_reducible refine Kd.C_drew ?_))); (case side2 => exact HC0.out); rintro e w73 ⟨v388, rfl, ho0, hb⟩; refine ⟨_, rfl, ?_⟩; have n0_ := Aside0.mk (Kd.R_elder' (kr_ HO379) (Kd.R_base ho0) hb); have n1_ := Aside0.mk (Kd.R_elder' (kr_ HO384) (Kd.R_base ho0) hb); have n2_ := Aside0.mk (Kd.R_lower (Kd.R_new' (Kd.R_new' ho0 (Kd.R_lt (kr_ HO379))) (Kd.R_lt (kr_ HO384))) (below_size hb_)); have n3_ := bk_ BK373 hb; have n4_ := Aside0.mk (below_step hb_ hb); clear HO379; clear HO384; clear BK373; clear HB; have HO379 := n0_; have HO384 := n1_; have HO389 := n2_; have BK373 := n3_; have HB := n4_; clear n0_ n1_ n2_ n3_ n4_; (try clear hb); (try clear hb2); (try clear hk); (try clear hi); (try clear ho0); obtain ⟨Ao74, co74, eo74⟩ := Kd.R_slice HO389.out; subst eo74) | ((with_reducible refine gate_callee (f := 24) rfl ?_); refine goesL_ (some 66) rfl rfl Try.func24 (by kernel_rfl) rfl #[.slice Ao74 t387.length co74, .string (t380 ++ a2)] rfl am_ ?_; (with_reducible refine (compress_Expand.calls _ _ t387 (t380 ++ a2) t390 t391 t392 t393 t394 t395 t396 t397 t398 _ ?side1 ?side2 A28.out).mono ?_); (case side1 => repeat (first | exact (Kd.R_reads' HO389.out).2.2 | (with_reducible refine Kd.C_alloc ?_ _) | (with_reducible refine Kd.C_drewN ?_ _) | (with_reducible refine Kd.C_drew ?_))); (case side2 => exact (Kd.R_reads' HO389.out).2.1); rintro e w75 ⟨rfl, hb⟩; refine ⟨_, rfl, ?_⟩; have n0_ := Aside0.mk (Kd.R_below (kr_ HO379) hb); have n1_ := Aside0.mk (Kd.R_below (kr_ HO384) hb); have n2_ := Aside0.mk (Kd.R_below (kr_ HO389) hb); have n3_ := bk_ BK373 hb; have n4_ := Aside0.mk (below_step hb_ hb); clear HO379; clear HO384; clear HO389; clear BK373; clear HB; have HO379 := n0_; have HO384 := n1_; have HO389 := n2_; have BK373 := n3_; have HB := n4_; clear n0_ n1_ n2_ n3_ n4_; (try clear hb); (try clear hb2); (try clear hk); (try clear hi)) | ((with_reducible refine gate_dst (N := 11) rfl ?_); refine bx_ 11 #[.int .i64 0, .int .i64 0, .string (⟨#[]⟩ : ByteArray), .string (⟨#[]⟩ : ByteArray), .int .i64 0, .int .i64 0, .int .i64 0] 24 ?_; intro gb399 hg w76 hbox hb; have n0_ := Aside0.mk (Kd.R_below (kr_ HO379) hb); have n1_ := Aside0.mk (Kd.R_below (kr_ HO384) hb); have n2_ := Aside0.mk (Kd.R_below (kr_ HO389) hb); have n3_ := bk_ BK373 hb; have n4_ := Aside0.mk (below_step hb_ hb); have n5_ := Aside0.mk (hbox); have n6_ := Aside0.mk ((by rw [hg]; exact (below_size hb_) : w.heap.size ≤ gb399)); have n7_ := Aside0.mk ((by rw [hg]; exact (below_size hb_) : w.heap.size ≤ gb399)); have n8_ := Aside0.mk ((by rw [hg]; exact Nat.ne_of_lt (blk_lt (bj_ BK373)) : gb373 ≠ gb399)); have n9_ := Aside0.mk ((by rw [hg]; exact Nat.ne_of_gt (blk_lt (bj_ BK373)) : gb399 ≠ gb373)); clear HO379; clear HO384; clear HO389; clear BK373; clear HB; have HO379 := n0_; have HO384 := n1_; have HO389 := n2_; have BK373 := n3_; have HB := n4_; have BK399 := n5_; have GW399 := n6_; have GE399 := n7_; have NB373_399 := n8_; have NB399_373 := n9_; clear n0_ n1_ n2_ n3_ n4_ n5_ n6_ n7_ n8_ n9_; clear hb hbox hg; have hnb77 := NB399_373.out; have hnc77 := NB373_399.out; have hcz78_0 := bc0 BK399; have hcz78_1 := bc1 BK399; have hcz78_2 := bc2 BK399; have hcz78_3 := bc3 BK399; have hcz78_4 := bc4 BK399; have hcz78_5 := bc5 BK399; have hcz78_6 := bc6 BK399; have hfz78_0 := blk_frozen BK399.out 0; have hfz78_1 := blk_frozen BK399.out 1; have hfz78_2 := blk_frozen BK399.out 2; have hfz78_3 := blk_frozen BK399.out 3; have hfz78_4 := blk_frozen BK399.out 4; have hfz78_5 := blk_frozen BK399.out 5; have hfz78_6 := blk_frozen BK399.out 6; have hcz79_0 := bc0 BK373; have hcz79_1 := bc1 BK373; have hcz79_2 := bc2 BK373; have hcz79_3 := bc3 BK373; have hcz79_4 := bc4 BK373; have hcz79_5 := bc5 BK373; have hcz79_6 := bc6 BK373; have hfz79_0 := blk_frozen BK373.out 0; have hfz79_1 := blk_frozen BK373.out 1; have hfz79_2 := blk_frozen BK373.out 2; have hfz79_3 := blk_frozen BK373.out 3; have hfz79_4 := blk_frozen BK373.out 4; have hfz79_5 := blk_frozen BK373.out 5; have hfz79_6 := blk_frozen BK373.out 6))
            go_ret
            exact ⟨er_, hb_⟩
          ·
           rw [if_neg c32] at H
           have c32b0 : (t397.toList == a2.toList) = false := beq_eq_false_iff_ne.mpr c32
           have c32b1 : (t397.toList != a2.toList) = true := bne_iff_ne.mpr c32
           obtain rfl := Option.some.inj H
           try go_wp2
           have n0_ := Aside0.mk (blk_drew BK373.out)
           have n1_ := Aside0.mk (below_drew1 HB.out)
           clear BK373
           clear HB
           have BK373 := n0_
           have HB := n1_
           clear n0_ n1_
           refine start_ (n := 9) (S := fun w' => w'.cell? ⟨gb373, 0, none⟩ = some (.int .i64 a1_0) ∧ w'.cell? ⟨gb373, 1, none⟩ = some (.int .i64 a1_1) ∧ w'.cell? ⟨gb373, 2, none⟩ = some (.string a1_2) ∧ w'.cell? ⟨gb373, 3, none⟩ = some (.string a1_3) ∧ w'.cell? ⟨gb373, 4, none⟩ = some (.int .i64 a1_4) ∧ w'.cell? ⟨gb373, 5, none⟩ = some (.int .i64 a1_5) ∧ w'.cell? ⟨gb373, 6, none⟩ = some (.int .i64 a1_6)) (ds := []) #[false, false, false, false, false, false, false, false, false] (by kernel_rfl) rfl rfl ⟨(blk_cell BK373.out 0).trans rfl, (blk_cell BK373.out 1).trans rfl, (blk_cell BK373.out 2).trans rfl, (blk_cell BK373.out 3).trans rfl, (blk_cell BK373.out 4).trans rfl, (blk_cell BK373.out 5).trans rfl, (blk_cell BK373.out 6).trans rfl⟩ (fun hHeld => ?_); refine with_tabW hopmeshlaw14_CompressBack.tab5 hopmeshlaw14_CompressBack.bits5 (fun HT_ HW_ => ?_)
           generalize wc.drew = w80 at BK373 HB hHeld ⊢
           refine pu_ HT_ 0 30 (bl 9 1) ?_
           refine tk_ HT_ HW_ hHeld 2 32 (bl 9 5) ?_
           refine one_ (i := 1) (N := some 31) (bl 9 7) rfl rfl (one_of HT_.out (by kernel_rfl)) (by decide) (fun K hK => ?_)
           refine goes_ Try.func14 (by kernel_rfl) rfl #[.slice A0 l0.length c0] (by rfl) rfl rfl am_ ?_
           with_reducible refine (api_Context.calls _ _ l0 t377 _ ?side1 ?side2 A21.out).mono ?_
           (case side1 => repeat (first | exact (Kd.C_below HR0.out HB.out) | (with_reducible refine Kd.C_alloc ?_ _) | (with_reducible refine Kd.C_drewN ?_ _) | (with_reducible refine Kd.C_drew ?_)))
           (case side2 => exact HC0.out)
           rintro e w81 ⟨v378, rfl, ho0, hb⟩
           refine ⟨_, rfl, ?_⟩
           have n0_ := Aside0.mk (Kd.R_lower ho0 (below_size hb_))
           have n1_ := bk_ BK373 hb
           have n2_ := Aside0.mk (below_step hb_ hb)
           clear BK373
           clear HB
           have HO379 := n0_
           have BK373 := n1_
           have HB := n2_
           clear n0_ n1_ n2_
           (try clear hb)
           (try clear hb2)
           (try clear hk)
           (try clear hi)
           (try clear ho0)
           obtain ⟨Ao82, co82, eo82⟩ := Kd.R_slice HO379.out
           (first | subst eo82 | (injection eo82 with f1_ f2_ f3_; have f4_ := f1_.symm; have f5_ := f3_.symm; clear f1_ f2_ f3_; subst f4_; subst f5_))
           refine hK.out _ _ ⟨(blk_cell BK373.out 0).trans rfl, (blk_cell BK373.out 1).trans rfl, (blk_cell BK373.out 2).trans rfl, (blk_cell BK373.out 3).trans rfl, (blk_cell BK373.out 4).trans rfl, (blk_cell BK373.out 5).trans rfl, (blk_cell BK373.out 6).trans rfl⟩ (fun hHeld => ?_)
           clear hK K
           refine norm_ (a' := ?_) ?_ ?_
           rotate_left
           ·
            show Act.put _ (some 31) _ = _
            simp only [ap_, s0_, s1_, i64_w]
            rfl
           refine one_ (i := 3) (N := some 33) (bl 9 15) rfl rfl (one_of HT_.out (by kernel_rfl)) (by decide) (fun K hK => ?_)
           refine goes_ Try.func17 (by kernel_rfl) rfl #[.slice Ao82 t377.length co82, .agg #[.int .i64 a1_0, .int .i64 a1_1, .string a1_2, .string a1_3, .int .i64 a1_4, .int .i64 a1_5, .int .i64 a1_6]] (by rfl) rfl rfl am_ ?_
           with_reducible refine (compress_Compress.calls _ _ t377 a1_0 a1_1 a1_2 a1_3 a1_4 a1_5 a1_6 t380 t381 _ ?side1 ?side2 A22.out).mono ?_
           (case side1 => repeat (first | exact (Kd.R_reads' HO379.out).2.2 | (with_reducible refine Kd.C_alloc ?_ _) | (with_reducible refine Kd.C_drewN ?_ _) | (with_reducible refine Kd.C_drew ?_)))
           (case side2 => exact (Kd.R_reads' HO379.out).2.1)
           rintro e w83 ⟨rfl, hb⟩
           refine ⟨_, rfl, ?_⟩
           have n0_ := Aside0.mk (Kd.R_below (kr_ HO379) hb)
           have n1_ := bk_ BK373 hb
           have n2_ := Aside0.mk (below_step hb_ hb)
           clear HO379
           clear BK373
           clear HB
           have HO379 := n0_
           have BK373 := n1_
           have HB := n2_
           clear n0_ n1_ n2_
           (try clear hb)
           (try clear hb2)
           (try clear hk)
           (try clear hi)
           refine hK.out _ _ ⟨(blk_cell BK373.out 0).trans rfl, (blk_cell BK373.out 1).trans rfl, (blk_cell BK373.out 2).trans rfl, (blk_cell BK373.out 3).trans rfl, (blk_cell BK373.out 4).trans rfl, (blk_cell BK373.out 5).trans rfl, (blk_cell BK373.out 6).trans rfl⟩ (fun hHeld => ?_)
           clear hK K
           refine norm_ (a' := ?_) ?_ ?_
           rotate_left
           ·
            show Act.put _ (some 33) _ = _
            simp only [ap_, s0_, s1_, i64_w]
            rfl
           refine pu_ HT_ 4 29 (bl 9 31) ?_
           refine pu_ HT_ 5 34 (bl 9 63) ?_
           refine pu_ HT_ 6 35 (bl 9 127) ?_
           refine pu_ HT_ 7 7 (bl 9 255) ?_
           refine pu_ HT_ 8 8 (bl 9 511) ?_
           refine done_ (done_of HT_.out (by kernel_rfl)) ?_
           try go_wp2
           have n0_ := Aside0.mk (Kd.R_drew HO379.out)
           have n1_ := Aside0.mk (blk_drew BK373.out)
           have n2_ := Aside0.mk (below_drew1 HB.out)
           clear HO379
           clear BK373
           clear HB
           have HO379 := n0_
           have BK373 := n1_
           have HB := n2_
           clear n0_ n1_ n2_
           refine start_ (n := 9) (S := fun w' => w'.cell? ⟨gb373, 0, none⟩ = some (.int .i64 a1_0) ∧ w'.cell? ⟨gb373, 1, none⟩ = some (.int .i64 a1_1) ∧ w'.cell? ⟨gb373, 2, none⟩ = some (.string a1_2) ∧ w'.cell? ⟨gb373, 3, none⟩ = some (.string a1_3) ∧ w'.cell? ⟨gb373, 4, none⟩ = some (.int .i64 a1_4) ∧ w'.cell? ⟨gb373, 5, none⟩ = some (.int .i64 a1_5) ∧ w'.cell? ⟨gb373, 6, none⟩ = some (.int .i64 a1_6)) (ds := []) #[false, false, false, false, false, false, false, false, false] (by kernel_rfl) rfl rfl ⟨(blk_cell BK373.out 0).trans rfl, (blk_cell BK373.out 1).trans rfl, (blk_cell BK373.out 2).trans rfl, (blk_cell BK373.out 3).trans rfl, (blk_cell BK373.out 4).trans rfl, (blk_cell BK373.out 5).trans rfl, (blk_cell BK373.out 6).trans rfl⟩ (fun hHeld => ?_); refine with_tabW hopmeshlaw14_CompressBack.tab6 hopmeshlaw14_CompressBack.bits6 (fun HT_ HW_ => ?_)
           generalize w83.drew = w84 at HO379 BK373 HB hHeld ⊢
           refine pu_ HT_ 0 37 (bl 9 1) ?_
           refine tk_ HT_ HW_ hHeld 2 39 (bl 9 5) ?_
           refine one_ (i := 1) (N := some 38) (bl 9 7) rfl rfl (one_of HT_.out (by kernel_rfl)) (by decide) (fun K hK => ?_)
           refine goes_ Try.func14 (by kernel_rfl) rfl #[.slice A0 l0.length c0] (by rfl) rfl rfl am_ ?_
           with_reducible refine (api_Context.calls _ _ l0 t382 _ ?side1 ?side2 A23.out).mono ?_
           (case side1 => repeat (first | exact (Kd.C_below HR0.out HB.out) | (with_reducible refine Kd.C_alloc ?_ _) | (with_reducible refine Kd.C_drewN ?_ _) | (with_reducible refine Kd.C_drew ?_)))
           (case side2 => exact HC0.out)
           rintro e w85 ⟨v383, rfl, ho0, hb⟩
           refine ⟨_, rfl, ?_⟩
           have n0_ := Aside0.mk (Kd.R_elder' (kr_ HO379) (Kd.R_base ho0) hb)
           have n1_ := Aside0.mk (Kd.R_lower (Kd.R_new' ho0 (Kd.R_lt (kr_ HO379))) (below_size hb_))
           have n2_ := bk_ BK373 hb
           have n3_ := Aside0.mk (below_step hb_ hb)
           clear HO379
           clear BK373
           clear HB
           have HO379 := n0_
           have HO384 := n1_
           have BK373 := n2_
           have HB := n3_
           clear n0_ n1_ n2_ n3_
           (try clear hb)
           (try clear hb2)
           (try clear hk)
           (try clear hi)
           (try clear ho0)
           obtain ⟨Ao86, co86, eo86⟩ := Kd.R_slice HO384.out
           (first | subst eo86 | (injection eo86 with f1_ f2_ f3_; have f4_ := f1_.symm; have f5_ := f3_.symm; clear f1_ f2_ f3_; subst f4_; subst f5_))
           refine hK.out _ _ ⟨(blk_cell BK373.out 0).trans rfl, (blk_cell BK373.out 1).trans rfl, (blk_cell BK373.out 2).trans rfl, (blk_cell BK373.out 3).trans rfl, (blk_cell BK373.out 4).trans rfl, (blk_cell BK373.out 5).trans rfl, (blk_cell BK373.out 6).trans rfl⟩ (fun hHeld => ?_)
           clear hK K
           refine norm_ (a' := ?_) ?_ ?_
           rotate_left
           ·
            show Act.put _ (some 38) _ = _
            simp only [ap_, s0_, s1_, i64_w]
            rfl
           refine one_ (i := 3) (N := some 40) (bl 9 15) rfl rfl (one_of HT_.out (by kernel_rfl)) (by decide) (fun K hK => ?_)
           refine goes_ Try.func13 (by kernel_rfl) rfl #[.slice Ao86 t382.length co86, .agg #[.int .i64 a1_0, .int .i64 a1_1, .string a1_2, .string a1_3, .int .i64 a1_4, .int .i64 a1_5, .int .i64 a1_6]] (by rfl) rfl rfl am_ ?_
           with_reducible refine (compress_Bits.calls _ _ t382 a1_0 a1_1 a1_2 a1_3 a1_4 a1_5 a1_6 t385 t386 _ ?side1 ?side2 A24.out).mono ?_
           (case side1 => repeat (first | exact (Kd.R_reads' HO384.out).2.2 | (with_reducible refine Kd.C_alloc ?_ _) | (with_reducible refine Kd.C_drewN ?_ _) | (with_reducible refine Kd.C_drew ?_)))
           (case side2 => exact (Kd.R_reads' HO384.out).2.1)
           rintro e w87 ⟨rfl, hb⟩
           refine ⟨_, rfl, ?_⟩
           have n0_ := Aside0.mk (Kd.R_below (kr_ HO379) hb)
           have n1_ := Aside0.mk (Kd.R_below (kr_ HO384) hb)
           have n2_ := bk_ BK373 hb
           have n3_ := Aside0.mk (below_step hb_ hb)
           clear HO379
           clear HO384
           clear BK373
           clear HB
           have HO379 := n0_
           have HO384 := n1_
           have BK373 := n2_
           have HB := n3_
           clear n0_ n1_ n2_ n3_
           (try clear hb)
           (try clear hb2)
           (try clear hk)
           (try clear hi)
           refine hK.out _ _ ⟨(blk_cell BK373.out 0).trans rfl, (blk_cell BK373.out 1).trans rfl, (blk_cell BK373.out 2).trans rfl, (blk_cell BK373.out 3).trans rfl, (blk_cell BK373.out 4).trans rfl, (blk_cell BK373.out 5).trans rfl, (blk_cell BK373.out 6).trans rfl⟩ (fun hHeld => ?_)
           clear hK K
           refine norm_ (a' := ?_) ?_ ?_
           rotate_left
           ·
            show Act.put _ (some 40) _ = _
            simp only [ap_, s0_, s1_, i64_w]
            rfl
           refine pu_ HT_ 4 36 (bl 9 31) ?_
           refine pu_ HT_ 5 41 (bl 9 63) ?_
           refine pu_ HT_ 6 42 (bl 9 127) ?_
           refine pu_ HT_ 7 9 (bl 9 255) ?_
           refine pu_ HT_ 8 10 (bl 9 511) ?_
           refine done_ (done_of HT_.out (by kernel_rfl)) ?_
           try go_wp2_with (first | ((with_reducible refine gate_callee (f := 14) rfl ?_); refine goesL_ (some 62) rfl rfl Try.func14 (by kernel_rfl) rfl #[.slice A0 l0.length c0] rfl am_ ?_; (with_reducible refine (api_Context.calls _ _ l0 t387 _ ?side1 ?side2 A26.out).mono ?_); (case side1 => repeat (first | exact (Kd.C_below HR0.out HB.out) | (with_reducible refine Kd.C_alloc ?_ _) | (with_reducible refine Kd.C_drewN ?_ _) | (with_reducible refine Kd.C_drew ?_))); (case side2 => exact HC0.out); rintro e w88 ⟨v388, rfl, ho0, hb⟩; refine ⟨_, rfl, ?_⟩; have n0_ := Aside0.mk (Kd.R_elder' (kr_ HO379) (Kd.R_base ho0) hb); have n1_ := Aside0.mk (Kd.R_elder' (kr_ HO384) (Kd.R_base ho0) hb); have n2_ := Aside0.mk (Kd.R_lower (Kd.R_new' (Kd.R_new' ho0 (Kd.R_lt (kr_ HO379))) (Kd.R_lt (kr_ HO384))) (below_size hb_)); have n3_ := bk_ BK373 hb; have n4_ := Aside0.mk (below_step hb_ hb); clear HO379; clear HO384; clear BK373; clear HB; have HO379 := n0_; have HO384 := n1_; have HO389 := n2_; have BK373 := n3_; have HB := n4_; clear n0_ n1_ n2_ n3_ n4_; (try clear hb); (try clear hb2); (try clear hk); (try clear hi); (try clear ho0); obtain ⟨Ao89, co89, eo89⟩ := Kd.R_slice HO389.out; subst eo89) | ((with_reducible refine gate_callee (f := 24) rfl ?_); refine goesL_ (some 66) rfl rfl Try.func24 (by kernel_rfl) rfl #[.slice Ao89 t387.length co89, .string (t380 ++ a2)] rfl am_ ?_; (with_reducible refine (compress_Expand.calls _ _ t387 (t380 ++ a2) t390 t391 t392 t393 t394 t395 t396 t397 t398 _ ?side1 ?side2 A28.out).mono ?_); (case side1 => repeat (first | exact (Kd.R_reads' HO389.out).2.2 | (with_reducible refine Kd.C_alloc ?_ _) | (with_reducible refine Kd.C_drewN ?_ _) | (with_reducible refine Kd.C_drew ?_))); (case side2 => exact (Kd.R_reads' HO389.out).2.1); rintro e w90 ⟨rfl, hb⟩; refine ⟨_, rfl, ?_⟩; have n0_ := Aside0.mk (Kd.R_below (kr_ HO379) hb); have n1_ := Aside0.mk (Kd.R_below (kr_ HO384) hb); have n2_ := Aside0.mk (Kd.R_below (kr_ HO389) hb); have n3_ := bk_ BK373 hb; have n4_ := Aside0.mk (below_step hb_ hb); clear HO379; clear HO384; clear HO389; clear BK373; clear HB; have HO379 := n0_; have HO384 := n1_; have HO389 := n2_; have BK373 := n3_; have HB := n4_; clear n0_ n1_ n2_ n3_ n4_; (try clear hb); (try clear hb2); (try clear hk); (try clear hi)) | ((with_reducible refine gate_dst (N := 11) rfl ?_); refine bx_ 11 #[.int .i64 0, .int .i64 0, .string (⟨#[]⟩ : ByteArray), .string (⟨#[]⟩ : ByteArray), .int .i64 0, .int .i64 0, .int .i64 0] 24 ?_; intro gb399 hg w91 hbox hb; have n0_ := Aside0.mk (Kd.R_below (kr_ HO379) hb); have n1_ := Aside0.mk (Kd.R_below (kr_ HO384) hb); have n2_ := Aside0.mk (Kd.R_below (kr_ HO389) hb); have n3_ := bk_ BK373 hb; have n4_ := Aside0.mk (below_step hb_ hb); have n5_ := Aside0.mk (hbox); have n6_ := Aside0.mk ((by rw [hg]; exact (below_size hb_) : w.heap.size ≤ gb399)); have n7_ := Aside0.mk ((by rw [hg]; exact (below_size hb_) : w.heap.size ≤ gb399)); have n8_ := Aside0.mk ((by rw [hg]; exact Nat.ne_of_lt (blk_lt (bj_ BK373)) : gb373 ≠ gb399)); have n9_ := Aside0.mk ((by rw [hg]; exact Nat.ne_of_gt (blk_lt (bj_ BK373)) : gb399 ≠ gb373)); clear HO379; clear HO384; clear HO389; clear BK373; clear HB; have HO379 := n0_; have HO384 := n1_; have HO389 := n2_; have BK373 := n3_; have HB := n4_; have BK399 := n5_; have GW399 := n6_; have GE399 := n7_; have NB373_399 := n8_; have NB399_373 := n9_; clear n0_ n1_ n2_ n3_ n4_ n5_ n6_ n7_ n8_ n9_; clear hb hbox hg; have hnb92 := NB399_373.out; have hnc92 := NB373_399.out; have hcz93_0 := bc0 BK399; have hcz93_1 := bc1 BK399; have hcz93_2 := bc2 BK399; have hcz93_3 := bc3 BK399; have hcz93_4 := bc4 BK399; have hcz93_5 := bc5 BK399; have hcz93_6 := bc6 BK399; have hfz93_0 := blk_frozen BK399.out 0; have hfz93_1 := blk_frozen BK399.out 1; have hfz93_2 := blk_frozen BK399.out 2; have hfz93_3 := blk_frozen BK399.out 3; have hfz93_4 := blk_frozen BK399.out 4; have hfz93_5 := blk_frozen BK399.out 5; have hfz93_6 := blk_frozen BK399.out 6; have hcz94_0 := bc0 BK373; have hcz94_1 := bc1 BK373; have hcz94_2 := bc2 BK373; have hcz94_3 := bc3 BK373; have hcz94_4 := bc4 BK373; have hcz94_5 := bc5 BK373; have hcz94_6 := bc6 BK373; have hfz94_0 := blk_frozen BK373.out 0; have hfz94_1 := blk_frozen BK373.out 1; have hfz94_2 := blk_frozen BK373.out 2; have hfz94_3 := blk_frozen BK373.out 3; have hfz94_4 := blk_frozen BK373.out 4; have hfz94_5 := blk_frozen BK373.out 5; have hfz94_6 := blk_frozen BK373.out 6))
           go_ret
           exact ⟨er_, hb_⟩
         ·
          rw [if_neg c31] at H
          have c31b0 : (t390 == a1_0 && (t391 == a1_1 && (t392.toList == a1_2.toList && (t393.toList == a1_3.toList && (t394 == a1_4 && (t395 == a1_5 && (t396 == a1_6))))))) = false := by simpa using c31
          (try (have c31b1 : decide (t390 = a1_0 && (t391 == a1_1 && (t392.toList == a1_2.toList && (t393.toList == a1_3.toList && (t394 == a1_4 && (t395 == a1_5 && (t396 == a1_6))))))) = false := by simpa using c31))
          (try (have c31b2 : (t390 == a1_0 && (t391 == a1_1 && (t392.toList == a1_2.toList && (t393.toList == a1_3.toList && (t394 == a1_4 && (t395 == a1_5 && (t396 == a1_6))))))) = false := by simpa using c31))
          (try (have c31b3 : ¬ (t390 = a1_0 && (t391 == a1_1 && (t392.toList == a1_2.toList && (t393.toList == a1_3.toList && (t394 == a1_4 && (t395 == a1_5 && (t396 == a1_6))))))) := by simpa using c31))
          clear c31
          obtain rfl := Option.some.inj H
          try go_wp2
          have n0_ := Aside0.mk (blk_drew BK373.out)
          have n1_ := Aside0.mk (below_drew1 HB.out)
          clear BK373
          clear HB
          have BK373 := n0_
          have HB := n1_
          clear n0_ n1_
          refine start_ (n := 9) (S := fun w' => w'.cell? ⟨gb373, 0, none⟩ = some (.int .i64 a1_0) ∧ w'.cell? ⟨gb373, 1, none⟩ = some (.int .i64 a1_1) ∧ w'.cell? ⟨gb373, 2, none⟩ = some (.string a1_2) ∧ w'.cell? ⟨gb373, 3, none⟩ = some (.string a1_3) ∧ w'.cell? ⟨gb373, 4, none⟩ = some (.int .i64 a1_4) ∧ w'.cell? ⟨gb373, 5, none⟩ = some (.int .i64 a1_5) ∧ w'.cell? ⟨gb373, 6, none⟩ = some (.int .i64 a1_6)) (ds := []) #[false, false, false, false, false, false, false, false, false] (by kernel_rfl) rfl rfl ⟨(blk_cell BK373.out 0).trans rfl, (blk_cell BK373.out 1).trans rfl, (blk_cell BK373.out 2).trans rfl, (blk_cell BK373.out 3).trans rfl, (blk_cell BK373.out 4).trans rfl, (blk_cell BK373.out 5).trans rfl, (blk_cell BK373.out 6).trans rfl⟩ (fun hHeld => ?_); refine with_tabW hopmeshlaw14_CompressBack.tab5 hopmeshlaw14_CompressBack.bits5 (fun HT_ HW_ => ?_)
          generalize wc.drew = w95 at BK373 HB hHeld ⊢
          refine pu_ HT_ 0 30 (bl 9 1) ?_
          refine tk_ HT_ HW_ hHeld 2 32 (bl 9 5) ?_
          refine one_ (i := 1) (N := some 31) (bl 9 7) rfl rfl (one_of HT_.out (by kernel_rfl)) (by decide) (fun K hK => ?_)
          refine goes_ Try.func14 (by kernel_rfl) rfl #[.slice A0 l0.length c0] (by rfl) rfl rfl am_ ?_
          with_reducible refine (api_Context.calls _ _ l0 t377 _ ?side1 ?side2 A21.out).mono ?_
          (case side1 => repeat (first | exact (Kd.C_below HR0.out HB.out) | (with_reducible refine Kd.C_alloc ?_ _) | (with_reducible refine Kd.C_drewN ?_ _) | (with_reducible refine Kd.C_drew ?_)))
          (case side2 => exact HC0.out)
          rintro e w96 ⟨v378, rfl, ho0, hb⟩
          refine ⟨_, rfl, ?_⟩
          have n0_ := Aside0.mk (Kd.R_lower ho0 (below_size hb_))
          have n1_ := bk_ BK373 hb
          have n2_ := Aside0.mk (below_step hb_ hb)
          clear BK373
          clear HB
          have HO379 := n0_
          have BK373 := n1_
          have HB := n2_
          clear n0_ n1_ n2_
          (try clear hb)
          (try clear hb2)
          (try clear hk)
          (try clear hi)
          (try clear ho0)
          obtain ⟨Ao97, co97, eo97⟩ := Kd.R_slice HO379.out
          (first | subst eo97 | (injection eo97 with f1_ f2_ f3_; have f4_ := f1_.symm; have f5_ := f3_.symm; clear f1_ f2_ f3_; subst f4_; subst f5_))
          refine hK.out _ _ ⟨(blk_cell BK373.out 0).trans rfl, (blk_cell BK373.out 1).trans rfl, (blk_cell BK373.out 2).trans rfl, (blk_cell BK373.out 3).trans rfl, (blk_cell BK373.out 4).trans rfl, (blk_cell BK373.out 5).trans rfl, (blk_cell BK373.out 6).trans rfl⟩ (fun hHeld => ?_)
          clear hK K
          refine norm_ (a' := ?_) ?_ ?_
          rotate_left
          ·
           show Act.put _ (some 31) _ = _
           simp only [ap_, s0_, s1_, i64_w]
           rfl
          refine one_ (i := 3) (N := some 33) (bl 9 15) rfl rfl (one_of HT_.out (by kernel_rfl)) (by decide) (fun K hK => ?_)
          refine goes_ Try.func17 (by kernel_rfl) rfl #[.slice Ao97 t377.length co97, .agg #[.int .i64 a1_0, .int .i64 a1_1, .string a1_2, .string a1_3, .int .i64 a1_4, .int .i64 a1_5, .int .i64 a1_6]] (by rfl) rfl rfl am_ ?_
          with_reducible refine (compress_Compress.calls _ _ t377 a1_0 a1_1 a1_2 a1_3 a1_4 a1_5 a1_6 t380 t381 _ ?side1 ?side2 A22.out).mono ?_
          (case side1 => repeat (first | exact (Kd.R_reads' HO379.out).2.2 | (with_reducible refine Kd.C_alloc ?_ _) | (with_reducible refine Kd.C_drewN ?_ _) | (with_reducible refine Kd.C_drew ?_)))
          (case side2 => exact (Kd.R_reads' HO379.out).2.1)
          rintro e w98 ⟨rfl, hb⟩
          refine ⟨_, rfl, ?_⟩
          have n0_ := Aside0.mk (Kd.R_below (kr_ HO379) hb)
          have n1_ := bk_ BK373 hb
          have n2_ := Aside0.mk (below_step hb_ hb)
          clear HO379
          clear BK373
          clear HB
          have HO379 := n0_
          have BK373 := n1_
          have HB := n2_
          clear n0_ n1_ n2_
          (try clear hb)
          (try clear hb2)
          (try clear hk)
          (try clear hi)
          refine hK.out _ _ ⟨(blk_cell BK373.out 0).trans rfl, (blk_cell BK373.out 1).trans rfl, (blk_cell BK373.out 2).trans rfl, (blk_cell BK373.out 3).trans rfl, (blk_cell BK373.out 4).trans rfl, (blk_cell BK373.out 5).trans rfl, (blk_cell BK373.out 6).trans rfl⟩ (fun hHeld => ?_)
          clear hK K
          refine norm_ (a' := ?_) ?_ ?_
          rotate_left
          ·
           show Act.put _ (some 33) _ = _
           simp only [ap_, s0_, s1_, i64_w]
           rfl
          refine pu_ HT_ 4 29 (bl 9 31) ?_
          refine pu_ HT_ 5 34 (bl 9 63) ?_
          refine pu_ HT_ 6 35 (bl 9 127) ?_
          refine pu_ HT_ 7 7 (bl 9 255) ?_
          refine pu_ HT_ 8 8 (bl 9 511) ?_
          refine done_ (done_of HT_.out (by kernel_rfl)) ?_
          try go_wp2
          have n0_ := Aside0.mk (Kd.R_drew HO379.out)
          have n1_ := Aside0.mk (blk_drew BK373.out)
          have n2_ := Aside0.mk (below_drew1 HB.out)
          clear HO379
          clear BK373
          clear HB
          have HO379 := n0_
          have BK373 := n1_
          have HB := n2_
          clear n0_ n1_ n2_
          refine start_ (n := 9) (S := fun w' => w'.cell? ⟨gb373, 0, none⟩ = some (.int .i64 a1_0) ∧ w'.cell? ⟨gb373, 1, none⟩ = some (.int .i64 a1_1) ∧ w'.cell? ⟨gb373, 2, none⟩ = some (.string a1_2) ∧ w'.cell? ⟨gb373, 3, none⟩ = some (.string a1_3) ∧ w'.cell? ⟨gb373, 4, none⟩ = some (.int .i64 a1_4) ∧ w'.cell? ⟨gb373, 5, none⟩ = some (.int .i64 a1_5) ∧ w'.cell? ⟨gb373, 6, none⟩ = some (.int .i64 a1_6)) (ds := []) #[false, false, false, false, false, false, false, false, false] (by kernel_rfl) rfl rfl ⟨(blk_cell BK373.out 0).trans rfl, (blk_cell BK373.out 1).trans rfl, (blk_cell BK373.out 2).trans rfl, (blk_cell BK373.out 3).trans rfl, (blk_cell BK373.out 4).trans rfl, (blk_cell BK373.out 5).trans rfl, (blk_cell BK373.out 6).trans rfl⟩ (fun hHeld => ?_); refine with_tabW hopmeshlaw14_CompressBack.tab6 hopmeshlaw14_CompressBack.bits6 (fun HT_ HW_ => ?_)
          generalize w98.drew = w99 at HO379 BK373 HB hHeld ⊢
          refine pu_ HT_ 0 37 (bl 9 1) ?_
          refine tk_ HT_ HW_ hHeld 2 39 (bl 9 5) ?_
          refine one_ (i := 1) (N := some 38) (bl 9 7) rfl rfl (one_of HT_.out (by kernel_rfl)) (by decide) (fun K hK => ?_)
          refine goes_ Try.func14 (by kernel_rfl) rfl #[.slice A0 l0.length c0] (by rfl) rfl rfl am_ ?_
          with_reducible refine (api_Context.calls _ _ l0 t382 _ ?side1 ?side2 A23.out).mono ?_
          (case side1 => repeat (first | exact (Kd.C_below HR0.out HB.out) | (with_reducible refine Kd.C_alloc ?_ _) | (with_reducible refine Kd.C_drewN ?_ _) | (with_reducible refine Kd.C_drew ?_)))
          (case side2 => exact HC0.out)
          rintro e w100 ⟨v383, rfl, ho0, hb⟩
          refine ⟨_, rfl, ?_⟩
          have n0_ := Aside0.mk (Kd.R_elder' (kr_ HO379) (Kd.R_base ho0) hb)
          have n1_ := Aside0.mk (Kd.R_lower (Kd.R_new' ho0 (Kd.R_lt (kr_ HO379))) (below_size hb_))
          have n2_ := bk_ BK373 hb
          have n3_ := Aside0.mk (below_step hb_ hb)
          clear HO379
          clear BK373
          clear HB
          have HO379 := n0_
          have HO384 := n1_
          have BK373 := n2_
          have HB := n3_
          clear n0_ n1_ n2_ n3_
          (try clear hb)
          (try clear hb2)
          (try clear hk)
          (try clear hi)
          (try clear ho0)
          obtain ⟨Ao101, co101, eo101⟩ := Kd.R_slice HO384.out
          (first | subst eo101 | (injection eo101 with f1_ f2_ f3_; have f4_ := f1_.symm; have f5_ := f3_.symm; clear f1_ f2_ f3_; subst f4_; subst f5_))
          refine hK.out _ _ ⟨(blk_cell BK373.out 0).trans rfl, (blk_cell BK373.out 1).trans rfl, (blk_cell BK373.out 2).trans rfl, (blk_cell BK373.out 3).trans rfl, (blk_cell BK373.out 4).trans rfl, (blk_cell BK373.out 5).trans rfl, (blk_cell BK373.out 6).trans rfl⟩ (fun hHeld => ?_)
          clear hK K
          refine norm_ (a' := ?_) ?_ ?_
          rotate_left
          ·
           show Act.put _ (some 38) _ = _
           simp only [ap_, s0_, s1_, i64_w]
           rfl
          refine one_ (i := 3) (N := some 40) (bl 9 15) rfl rfl (one_of HT_.out (by kernel_rfl)) (by decide) (fun K hK => ?_)
          refine goes_ Try.func13 (by kernel_rfl) rfl #[.slice Ao101 t382.length co101, .agg #[.int .i64 a1_0, .int .i64 a1_1, .string a1_2, .string a1_3, .int .i64 a1_4, .int .i64 a1_5, .int .i64 a1_6]] (by rfl) rfl rfl am_ ?_
          with_reducible refine (compress_Bits.calls _ _ t382 a1_0 a1_1 a1_2 a1_3 a1_4 a1_5 a1_6 t385 t386 _ ?side1 ?side2 A24.out).mono ?_
          (case side1 => repeat (first | exact (Kd.R_reads' HO384.out).2.2 | (with_reducible refine Kd.C_alloc ?_ _) | (with_reducible refine Kd.C_drewN ?_ _) | (with_reducible refine Kd.C_drew ?_)))
          (case side2 => exact (Kd.R_reads' HO384.out).2.1)
          rintro e w102 ⟨rfl, hb⟩
          refine ⟨_, rfl, ?_⟩
          have n0_ := Aside0.mk (Kd.R_below (kr_ HO379) hb)
          have n1_ := Aside0.mk (Kd.R_below (kr_ HO384) hb)
          have n2_ := bk_ BK373 hb
          have n3_ := Aside0.mk (below_step hb_ hb)
          clear HO379
          clear HO384
          clear BK373
          clear HB
          have HO379 := n0_
          have HO384 := n1_
          have BK373 := n2_
          have HB := n3_
          clear n0_ n1_ n2_ n3_
          (try clear hb)
          (try clear hb2)
          (try clear hk)
          (try clear hi)
          refine hK.out _ _ ⟨(blk_cell BK373.out 0).trans rfl, (blk_cell BK373.out 1).trans rfl, (blk_cell BK373.out 2).trans rfl, (blk_cell BK373.out 3).trans rfl, (blk_cell BK373.out 4).trans rfl, (blk_cell BK373.out 5).trans rfl, (blk_cell BK373.out 6).trans rfl⟩ (fun hHeld => ?_)
          clear hK K
          refine norm_ (a' := ?_) ?_ ?_
          rotate_left
          ·
           show Act.put _ (some 40) _ = _
           simp only [ap_, s0_, s1_, i64_w]
           rfl
          refine pu_ HT_ 4 36 (bl 9 31) ?_
          refine pu_ HT_ 5 41 (bl 9 63) ?_
          refine pu_ HT_ 6 42 (bl 9 127) ?_
          refine pu_ HT_ 7 9 (bl 9 255) ?_
          refine pu_ HT_ 8 10 (bl 9 511) ?_
          refine done_ (done_of HT_.out (by kernel_rfl)) ?_
          try go_wp2_with (first | ((with_reducible refine gate_callee (f := 14) rfl ?_); refine goesL_ (some 62) rfl rfl Try.func14 (by kernel_rfl) rfl #[.slice A0 l0.length c0] rfl am_ ?_; (with_reducible refine (api_Context.calls _ _ l0 t387 _ ?side1 ?side2 A26.out).mono ?_); (case side1 => repeat (first | exact (Kd.C_below HR0.out HB.out) | (with_reducible refine Kd.C_alloc ?_ _) | (with_reducible refine Kd.C_drewN ?_ _) | (with_reducible refine Kd.C_drew ?_))); (case side2 => exact HC0.out); rintro e w103 ⟨v388, rfl, ho0, hb⟩; refine ⟨_, rfl, ?_⟩; have n0_ := Aside0.mk (Kd.R_elder' (kr_ HO379) (Kd.R_base ho0) hb); have n1_ := Aside0.mk (Kd.R_elder' (kr_ HO384) (Kd.R_base ho0) hb); have n2_ := Aside0.mk (Kd.R_lower (Kd.R_new' (Kd.R_new' ho0 (Kd.R_lt (kr_ HO379))) (Kd.R_lt (kr_ HO384))) (below_size hb_)); have n3_ := bk_ BK373 hb; have n4_ := Aside0.mk (below_step hb_ hb); clear HO379; clear HO384; clear BK373; clear HB; have HO379 := n0_; have HO384 := n1_; have HO389 := n2_; have BK373 := n3_; have HB := n4_; clear n0_ n1_ n2_ n3_ n4_; (try clear hb); (try clear hb2); (try clear hk); (try clear hi); (try clear ho0); obtain ⟨Ao104, co104, eo104⟩ := Kd.R_slice HO389.out; subst eo104) | ((with_reducible refine gate_callee (f := 24) rfl ?_); refine goesL_ (some 66) rfl rfl Try.func24 (by kernel_rfl) rfl #[.slice Ao104 t387.length co104, .string (t380 ++ a2)] rfl am_ ?_; (with_reducible refine (compress_Expand.calls _ _ t387 (t380 ++ a2) t390 t391 t392 t393 t394 t395 t396 t397 t398 _ ?side1 ?side2 A28.out).mono ?_); (case side1 => repeat (first | exact (Kd.R_reads' HO389.out).2.2 | (with_reducible refine Kd.C_alloc ?_ _) | (with_reducible refine Kd.C_drewN ?_ _) | (with_reducible refine Kd.C_drew ?_))); (case side2 => exact (Kd.R_reads' HO389.out).2.1); rintro e w105 ⟨rfl, hb⟩; refine ⟨_, rfl, ?_⟩; have n0_ := Aside0.mk (Kd.R_below (kr_ HO379) hb); have n1_ := Aside0.mk (Kd.R_below (kr_ HO384) hb); have n2_ := Aside0.mk (Kd.R_below (kr_ HO389) hb); have n3_ := bk_ BK373 hb; have n4_ := Aside0.mk (below_step hb_ hb); clear HO379; clear HO384; clear HO389; clear BK373; clear HB; have HO379 := n0_; have HO384 := n1_; have HO389 := n2_; have BK373 := n3_; have HB := n4_; clear n0_ n1_ n2_ n3_ n4_; (try clear hb); (try clear hb2); (try clear hk); (try clear hi)) | ((with_reducible refine gate_dst (N := 11) rfl ?_); refine bx_ 11 #[.int .i64 0, .int .i64 0, .string (⟨#[]⟩ : ByteArray), .string (⟨#[]⟩ : ByteArray), .int .i64 0, .int .i64 0, .int .i64 0] 24 ?_; intro gb399 hg w106 hbox hb; have n0_ := Aside0.mk (Kd.R_below (kr_ HO379) hb); have n1_ := Aside0.mk (Kd.R_below (kr_ HO384) hb); have n2_ := Aside0.mk (Kd.R_below (kr_ HO389) hb); have n3_ := bk_ BK373 hb; have n4_ := Aside0.mk (below_step hb_ hb); have n5_ := Aside0.mk (hbox); have n6_ := Aside0.mk ((by rw [hg]; exact (below_size hb_) : w.heap.size ≤ gb399)); have n7_ := Aside0.mk ((by rw [hg]; exact (below_size hb_) : w.heap.size ≤ gb399)); have n8_ := Aside0.mk ((by rw [hg]; exact Nat.ne_of_lt (blk_lt (bj_ BK373)) : gb373 ≠ gb399)); have n9_ := Aside0.mk ((by rw [hg]; exact Nat.ne_of_gt (blk_lt (bj_ BK373)) : gb399 ≠ gb373)); clear HO379; clear HO384; clear HO389; clear BK373; clear HB; have HO379 := n0_; have HO384 := n1_; have HO389 := n2_; have BK373 := n3_; have HB := n4_; have BK399 := n5_; have GW399 := n6_; have GE399 := n7_; have NB373_399 := n8_; have NB399_373 := n9_; clear n0_ n1_ n2_ n3_ n4_ n5_ n6_ n7_ n8_ n9_; clear hb hbox hg; have hnb107 := NB399_373.out; have hnc107 := NB373_399.out; have hcz108_0 := bc0 BK399; have hcz108_1 := bc1 BK399; have hcz108_2 := bc2 BK399; have hcz108_3 := bc3 BK399; have hcz108_4 := bc4 BK399; have hcz108_5 := bc5 BK399; have hcz108_6 := bc6 BK399; have hfz108_0 := blk_frozen BK399.out 0; have hfz108_1 := blk_frozen BK399.out 1; have hfz108_2 := blk_frozen BK399.out 2; have hfz108_3 := blk_frozen BK399.out 3; have hfz108_4 := blk_frozen BK399.out 4; have hfz108_5 := blk_frozen BK399.out 5; have hfz108_6 := blk_frozen BK399.out 6; have hcz109_0 := bc0 BK373; have hcz109_1 := bc1 BK373; have hcz109_2 := bc2 BK373; have hcz109_3 := bc3 BK373; have hcz109_4 := bc4 BK373; have hcz109_5 := bc5 BK373; have hcz109_6 := bc6 BK373; have hfz109_0 := blk_frozen BK373.out 0; have hfz109_1 := blk_frozen BK373.out 1; have hfz109_2 := blk_frozen BK373.out 2; have hfz109_3 := blk_frozen BK373.out 3; have hfz109_4 := blk_frozen BK373.out 4; have hfz109_5 := blk_frozen BK373.out 5; have hfz109_6 := blk_frozen BK373.out 6))
          go_ret
          exact ⟨er_, hb_⟩
        ·
         rw [if_neg c30] at H
         have c30b0 : (t398 == 0) = false := beq_eq_false_iff_ne.mpr c30
         have c30b1 : (t398 != 0) = true := bne_iff_ne.mpr c30
         obtain rfl := Option.some.inj H
         try go_wp2
         have n0_ := Aside0.mk (blk_drew BK373.out)
         have n1_ := Aside0.mk (below_drew1 HB.out)
         clear BK373
         clear HB
         have BK373 := n0_
         have HB := n1_
         clear n0_ n1_
         refine start_ (n := 9) (S := fun w' => w'.cell? ⟨gb373, 0, none⟩ = some (.int .i64 a1_0) ∧ w'.cell? ⟨gb373, 1, none⟩ = some (.int .i64 a1_1) ∧ w'.cell? ⟨gb373, 2, none⟩ = some (.string a1_2) ∧ w'.cell? ⟨gb373, 3, none⟩ = some (.string a1_3) ∧ w'.cell? ⟨gb373, 4, none⟩ = some (.int .i64 a1_4) ∧ w'.cell? ⟨gb373, 5, none⟩ = some (.int .i64 a1_5) ∧ w'.cell? ⟨gb373, 6, none⟩ = some (.int .i64 a1_6)) (ds := []) #[false, false, false, false, false, false, false, false, false] (by kernel_rfl) rfl rfl ⟨(blk_cell BK373.out 0).trans rfl, (blk_cell BK373.out 1).trans rfl, (blk_cell BK373.out 2).trans rfl, (blk_cell BK373.out 3).trans rfl, (blk_cell BK373.out 4).trans rfl, (blk_cell BK373.out 5).trans rfl, (blk_cell BK373.out 6).trans rfl⟩ (fun hHeld => ?_); refine with_tabW hopmeshlaw14_CompressBack.tab5 hopmeshlaw14_CompressBack.bits5 (fun HT_ HW_ => ?_)
         generalize wc.drew = w110 at BK373 HB hHeld ⊢
         refine pu_ HT_ 0 30 (bl 9 1) ?_
         refine tk_ HT_ HW_ hHeld 2 32 (bl 9 5) ?_
         refine one_ (i := 1) (N := some 31) (bl 9 7) rfl rfl (one_of HT_.out (by kernel_rfl)) (by decide) (fun K hK => ?_)
         refine goes_ Try.func14 (by kernel_rfl) rfl #[.slice A0 l0.length c0] (by rfl) rfl rfl am_ ?_
         with_reducible refine (api_Context.calls _ _ l0 t377 _ ?side1 ?side2 A21.out).mono ?_
         (case side1 => repeat (first | exact (Kd.C_below HR0.out HB.out) | (with_reducible refine Kd.C_alloc ?_ _) | (with_reducible refine Kd.C_drewN ?_ _) | (with_reducible refine Kd.C_drew ?_)))
         (case side2 => exact HC0.out)
         rintro e w111 ⟨v378, rfl, ho0, hb⟩
         refine ⟨_, rfl, ?_⟩
         have n0_ := Aside0.mk (Kd.R_lower ho0 (below_size hb_))
         have n1_ := bk_ BK373 hb
         have n2_ := Aside0.mk (below_step hb_ hb)
         clear BK373
         clear HB
         have HO379 := n0_
         have BK373 := n1_
         have HB := n2_
         clear n0_ n1_ n2_
         (try clear hb)
         (try clear hb2)
         (try clear hk)
         (try clear hi)
         (try clear ho0)
         obtain ⟨Ao112, co112, eo112⟩ := Kd.R_slice HO379.out
         (first | subst eo112 | (injection eo112 with f1_ f2_ f3_; have f4_ := f1_.symm; have f5_ := f3_.symm; clear f1_ f2_ f3_; subst f4_; subst f5_))
         refine hK.out _ _ ⟨(blk_cell BK373.out 0).trans rfl, (blk_cell BK373.out 1).trans rfl, (blk_cell BK373.out 2).trans rfl, (blk_cell BK373.out 3).trans rfl, (blk_cell BK373.out 4).trans rfl, (blk_cell BK373.out 5).trans rfl, (blk_cell BK373.out 6).trans rfl⟩ (fun hHeld => ?_)
         clear hK K
         refine norm_ (a' := ?_) ?_ ?_
         rotate_left
         ·
          show Act.put _ (some 31) _ = _
          simp only [ap_, s0_, s1_, i64_w]
          rfl
         refine one_ (i := 3) (N := some 33) (bl 9 15) rfl rfl (one_of HT_.out (by kernel_rfl)) (by decide) (fun K hK => ?_)
         refine goes_ Try.func17 (by kernel_rfl) rfl #[.slice Ao112 t377.length co112, .agg #[.int .i64 a1_0, .int .i64 a1_1, .string a1_2, .string a1_3, .int .i64 a1_4, .int .i64 a1_5, .int .i64 a1_6]] (by rfl) rfl rfl am_ ?_
         with_reducible refine (compress_Compress.calls _ _ t377 a1_0 a1_1 a1_2 a1_3 a1_4 a1_5 a1_6 t380 t381 _ ?side1 ?side2 A22.out).mono ?_
         (case side1 => repeat (first | exact (Kd.R_reads' HO379.out).2.2 | (with_reducible refine Kd.C_alloc ?_ _) | (with_reducible refine Kd.C_drewN ?_ _) | (with_reducible refine Kd.C_drew ?_)))
         (case side2 => exact (Kd.R_reads' HO379.out).2.1)
         rintro e w113 ⟨rfl, hb⟩
         refine ⟨_, rfl, ?_⟩
         have n0_ := Aside0.mk (Kd.R_below (kr_ HO379) hb)
         have n1_ := bk_ BK373 hb
         have n2_ := Aside0.mk (below_step hb_ hb)
         clear HO379
         clear BK373
         clear HB
         have HO379 := n0_
         have BK373 := n1_
         have HB := n2_
         clear n0_ n1_ n2_
         (try clear hb)
         (try clear hb2)
         (try clear hk)
         (try clear hi)
         refine hK.out _ _ ⟨(blk_cell BK373.out 0).trans rfl, (blk_cell BK373.out 1).trans rfl, (blk_cell BK373.out 2).trans rfl, (blk_cell BK373.out 3).trans rfl, (blk_cell BK373.out 4).trans rfl, (blk_cell BK373.out 5).trans rfl, (blk_cell BK373.out 6).trans rfl⟩ (fun hHeld => ?_)
         clear hK K
         refine norm_ (a' := ?_) ?_ ?_
         rotate_left
         ·
          show Act.put _ (some 33) _ = _
          simp only [ap_, s0_, s1_, i64_w]
          rfl
         refine pu_ HT_ 4 29 (bl 9 31) ?_
         refine pu_ HT_ 5 34 (bl 9 63) ?_
         refine pu_ HT_ 6 35 (bl 9 127) ?_
         refine pu_ HT_ 7 7 (bl 9 255) ?_
         refine pu_ HT_ 8 8 (bl 9 511) ?_
         refine done_ (done_of HT_.out (by kernel_rfl)) ?_
         try go_wp2
         have n0_ := Aside0.mk (Kd.R_drew HO379.out)
         have n1_ := Aside0.mk (blk_drew BK373.out)
         have n2_ := Aside0.mk (below_drew1 HB.out)
         clear HO379
         clear BK373
         clear HB
         have HO379 := n0_
         have BK373 := n1_
         have HB := n2_
         clear n0_ n1_ n2_
         refine start_ (n := 9) (S := fun w' => w'.cell? ⟨gb373, 0, none⟩ = some (.int .i64 a1_0) ∧ w'.cell? ⟨gb373, 1, none⟩ = some (.int .i64 a1_1) ∧ w'.cell? ⟨gb373, 2, none⟩ = some (.string a1_2) ∧ w'.cell? ⟨gb373, 3, none⟩ = some (.string a1_3) ∧ w'.cell? ⟨gb373, 4, none⟩ = some (.int .i64 a1_4) ∧ w'.cell? ⟨gb373, 5, none⟩ = some (.int .i64 a1_5) ∧ w'.cell? ⟨gb373, 6, none⟩ = some (.int .i64 a1_6)) (ds := []) #[false, false, false, false, false, false, false, false, false] (by kernel_rfl) rfl rfl ⟨(blk_cell BK373.out 0).trans rfl, (blk_cell BK373.out 1).trans rfl, (blk_cell BK373.out 2).trans rfl, (blk_cell BK373.out 3).trans rfl, (blk_cell BK373.out 4).trans rfl, (blk_cell BK373.out 5).trans rfl, (blk_cell BK373.out 6).trans rfl⟩ (fun hHeld => ?_); refine with_tabW hopmeshlaw14_CompressBack.tab6 hopmeshlaw14_CompressBack.bits6 (fun HT_ HW_ => ?_)
         generalize w113.drew = w114 at HO379 BK373 HB hHeld ⊢
         refine pu_ HT_ 0 37 (bl 9 1) ?_
         refine tk_ HT_ HW_ hHeld 2 39 (bl 9 5) ?_
         refine one_ (i := 1) (N := some 38) (bl 9 7) rfl rfl (one_of HT_.out (by kernel_rfl)) (by decide) (fun K hK => ?_)
         refine goes_ Try.func14 (by kernel_rfl) rfl #[.slice A0 l0.length c0] (by rfl) rfl rfl am_ ?_
         with_reducible refine (api_Context.calls _ _ l0 t382 _ ?side1 ?side2 A23.out).mono ?_
         (case side1 => repeat (first | exact (Kd.C_below HR0.out HB.out) | (with_reducible refine Kd.C_alloc ?_ _) | (with_reducible refine Kd.C_drewN ?_ _) | (with_reducible refine Kd.C_drew ?_)))
         (case side2 => exact HC0.out)
         rintro e w115 ⟨v383, rfl, ho0, hb⟩
         refine ⟨_, rfl, ?_⟩
         have n0_ := Aside0.mk (Kd.R_elder' (kr_ HO379) (Kd.R_base ho0) hb)
         have n1_ := Aside0.mk (Kd.R_lower (Kd.R_new' ho0 (Kd.R_lt (kr_ HO379))) (below_size hb_))
         have n2_ := bk_ BK373 hb
         have n3_ := Aside0.mk (below_step hb_ hb)
         clear HO379
         clear BK373
         clear HB
         have HO379 := n0_
         have HO384 := n1_
         have BK373 := n2_
         have HB := n3_
         clear n0_ n1_ n2_ n3_
         (try clear hb)
         (try clear hb2)
         (try clear hk)
         (try clear hi)
         (try clear ho0)
         obtain ⟨Ao116, co116, eo116⟩ := Kd.R_slice HO384.out
         (first | subst eo116 | (injection eo116 with f1_ f2_ f3_; have f4_ := f1_.symm; have f5_ := f3_.symm; clear f1_ f2_ f3_; subst f4_; subst f5_))
         refine hK.out _ _ ⟨(blk_cell BK373.out 0).trans rfl, (blk_cell BK373.out 1).trans rfl, (blk_cell BK373.out 2).trans rfl, (blk_cell BK373.out 3).trans rfl, (blk_cell BK373.out 4).trans rfl, (blk_cell BK373.out 5).trans rfl, (blk_cell BK373.out 6).trans rfl⟩ (fun hHeld => ?_)
         clear hK K
         refine norm_ (a' := ?_) ?_ ?_
         rotate_left
         ·
          show Act.put _ (some 38) _ = _
          simp only [ap_, s0_, s1_, i64_w]
          rfl
         refine one_ (i := 3) (N := some 40) (bl 9 15) rfl rfl (one_of HT_.out (by kernel_rfl)) (by decide) (fun K hK => ?_)
         refine goes_ Try.func13 (by kernel_rfl) rfl #[.slice Ao116 t382.length co116, .agg #[.int .i64 a1_0, .int .i64 a1_1, .string a1_2, .string a1_3, .int .i64 a1_4, .int .i64 a1_5, .int .i64 a1_6]] (by rfl) rfl rfl am_ ?_
         with_reducible refine (compress_Bits.calls _ _ t382 a1_0 a1_1 a1_2 a1_3 a1_4 a1_5 a1_6 t385 t386 _ ?side1 ?side2 A24.out).mono ?_
         (case side1 => repeat (first | exact (Kd.R_reads' HO384.out).2.2 | (with_reducible refine Kd.C_alloc ?_ _) | (with_reducible refine Kd.C_drewN ?_ _) | (with_reducible refine Kd.C_drew ?_)))
         (case side2 => exact (Kd.R_reads' HO384.out).2.1)
         rintro e w117 ⟨rfl, hb⟩
         refine ⟨_, rfl, ?_⟩
         have n0_ := Aside0.mk (Kd.R_below (kr_ HO379) hb)
         have n1_ := Aside0.mk (Kd.R_below (kr_ HO384) hb)
         have n2_ := bk_ BK373 hb
         have n3_ := Aside0.mk (below_step hb_ hb)
         clear HO379
         clear HO384
         clear BK373
         clear HB
         have HO379 := n0_
         have HO384 := n1_
         have BK373 := n2_
         have HB := n3_
         clear n0_ n1_ n2_ n3_
         (try clear hb)
         (try clear hb2)
         (try clear hk)
         (try clear hi)
         refine hK.out _ _ ⟨(blk_cell BK373.out 0).trans rfl, (blk_cell BK373.out 1).trans rfl, (blk_cell BK373.out 2).trans rfl, (blk_cell BK373.out 3).trans rfl, (blk_cell BK373.out 4).trans rfl, (blk_cell BK373.out 5).trans rfl, (blk_cell BK373.out 6).trans rfl⟩ (fun hHeld => ?_)
         clear hK K
         refine norm_ (a' := ?_) ?_ ?_
         rotate_left
         ·
          show Act.put _ (some 40) _ = _
          simp only [ap_, s0_, s1_, i64_w]
          rfl
         refine pu_ HT_ 4 36 (bl 9 31) ?_
         refine pu_ HT_ 5 41 (bl 9 63) ?_
         refine pu_ HT_ 6 42 (bl 9 127) ?_
         refine pu_ HT_ 7 9 (bl 9 255) ?_
         refine pu_ HT_ 8 10 (bl 9 511) ?_
         refine done_ (done_of HT_.out (by kernel_rfl)) ?_
         try go_wp2_with (first | ((with_reducible refine gate_callee (f := 14) rfl ?_); refine goesL_ (some 62) rfl rfl Try.func14 (by kernel_rfl) rfl #[.slice A0 l0.length c0] rfl am_ ?_; (with_reducible refine (api_Context.calls _ _ l0 t387 _ ?side1 ?side2 A26.out).mono ?_); (case side1 => repeat (first | exact (Kd.C_below HR0.out HB.out) | (with_reducible refine Kd.C_alloc ?_ _) | (with_reducible refine Kd.C_drewN ?_ _) | (with_reducible refine Kd.C_drew ?_))); (case side2 => exact HC0.out); rintro e w118 ⟨v388, rfl, ho0, hb⟩; refine ⟨_, rfl, ?_⟩; have n0_ := Aside0.mk (Kd.R_elder' (kr_ HO379) (Kd.R_base ho0) hb); have n1_ := Aside0.mk (Kd.R_elder' (kr_ HO384) (Kd.R_base ho0) hb); have n2_ := Aside0.mk (Kd.R_lower (Kd.R_new' (Kd.R_new' ho0 (Kd.R_lt (kr_ HO379))) (Kd.R_lt (kr_ HO384))) (below_size hb_)); have n3_ := bk_ BK373 hb; have n4_ := Aside0.mk (below_step hb_ hb); clear HO379; clear HO384; clear BK373; clear HB; have HO379 := n0_; have HO384 := n1_; have HO389 := n2_; have BK373 := n3_; have HB := n4_; clear n0_ n1_ n2_ n3_ n4_; (try clear hb); (try clear hb2); (try clear hk); (try clear hi); (try clear ho0); obtain ⟨Ao119, co119, eo119⟩ := Kd.R_slice HO389.out; subst eo119) | ((with_reducible refine gate_callee (f := 24) rfl ?_); refine goesL_ (some 66) rfl rfl Try.func24 (by kernel_rfl) rfl #[.slice Ao119 t387.length co119, .string (t380 ++ a2)] rfl am_ ?_; (with_reducible refine (compress_Expand.calls _ _ t387 (t380 ++ a2) t390 t391 t392 t393 t394 t395 t396 t397 t398 _ ?side1 ?side2 A28.out).mono ?_); (case side1 => repeat (first | exact (Kd.R_reads' HO389.out).2.2 | (with_reducible refine Kd.C_alloc ?_ _) | (with_reducible refine Kd.C_drewN ?_ _) | (with_reducible refine Kd.C_drew ?_))); (case side2 => exact (Kd.R_reads' HO389.out).2.1); rintro e w120 ⟨rfl, hb⟩; refine ⟨_, rfl, ?_⟩; have n0_ := Aside0.mk (Kd.R_below (kr_ HO379) hb); have n1_ := Aside0.mk (Kd.R_below (kr_ HO384) hb); have n2_ := Aside0.mk (Kd.R_below (kr_ HO389) hb); have n3_ := bk_ BK373 hb; have n4_ := Aside0.mk (below_step hb_ hb); clear HO379; clear HO384; clear HO389; clear BK373; clear HB; have HO379 := n0_; have HO384 := n1_; have HO389 := n2_; have BK373 := n3_; have HB := n4_; clear n0_ n1_ n2_ n3_ n4_; (try clear hb); (try clear hb2); (try clear hk); (try clear hi)) | ((with_reducible refine gate_dst (N := 11) rfl ?_); refine bx_ 11 #[.int .i64 0, .int .i64 0, .string (⟨#[]⟩ : ByteArray), .string (⟨#[]⟩ : ByteArray), .int .i64 0, .int .i64 0, .int .i64 0] 24 ?_; intro gb399 hg w121 hbox hb; have n0_ := Aside0.mk (Kd.R_below (kr_ HO379) hb); have n1_ := Aside0.mk (Kd.R_below (kr_ HO384) hb); have n2_ := Aside0.mk (Kd.R_below (kr_ HO389) hb); have n3_ := bk_ BK373 hb; have n4_ := Aside0.mk (below_step hb_ hb); have n5_ := Aside0.mk (hbox); have n6_ := Aside0.mk ((by rw [hg]; exact (below_size hb_) : w.heap.size ≤ gb399)); have n7_ := Aside0.mk ((by rw [hg]; exact (below_size hb_) : w.heap.size ≤ gb399)); have n8_ := Aside0.mk ((by rw [hg]; exact Nat.ne_of_lt (blk_lt (bj_ BK373)) : gb373 ≠ gb399)); have n9_ := Aside0.mk ((by rw [hg]; exact Nat.ne_of_gt (blk_lt (bj_ BK373)) : gb399 ≠ gb373)); clear HO379; clear HO384; clear HO389; clear BK373; clear HB; have HO379 := n0_; have HO384 := n1_; have HO389 := n2_; have BK373 := n3_; have HB := n4_; have BK399 := n5_; have GW399 := n6_; have GE399 := n7_; have NB373_399 := n8_; have NB399_373 := n9_; clear n0_ n1_ n2_ n3_ n4_ n5_ n6_ n7_ n8_ n9_; clear hb hbox hg; have hnb122 := NB399_373.out; have hnc122 := NB373_399.out; have hcz123_0 := bc0 BK399; have hcz123_1 := bc1 BK399; have hcz123_2 := bc2 BK399; have hcz123_3 := bc3 BK399; have hcz123_4 := bc4 BK399; have hcz123_5 := bc5 BK399; have hcz123_6 := bc6 BK399; have hfz123_0 := blk_frozen BK399.out 0; have hfz123_1 := blk_frozen BK399.out 1; have hfz123_2 := blk_frozen BK399.out 2; have hfz123_3 := blk_frozen BK399.out 3; have hfz123_4 := blk_frozen BK399.out 4; have hfz123_5 := blk_frozen BK399.out 5; have hfz123_6 := blk_frozen BK399.out 6))
         go_ret
         exact ⟨er_, hb_⟩
       ·
        rw [if_neg c29] at H
        have c29b0 : (t386 == 0) = false := beq_eq_false_iff_ne.mpr c29
        have c29b1 : (t386 != 0) = true := bne_iff_ne.mpr c29
        obtain rfl := Option.some.inj H
        try go_wp2
        have n0_ := Aside0.mk (blk_drew BK373.out)
        have n1_ := Aside0.mk (below_drew1 HB.out)
        clear BK373
        clear HB
        have BK373 := n0_
        have HB := n1_
        clear n0_ n1_
        refine start_ (n := 9) (S := fun w' => w'.cell? ⟨gb373, 0, none⟩ = some (.int .i64 a1_0) ∧ w'.cell? ⟨gb373, 1, none⟩ = some (.int .i64 a1_1) ∧ w'.cell? ⟨gb373, 2, none⟩ = some (.string a1_2) ∧ w'.cell? ⟨gb373, 3, none⟩ = some (.string a1_3) ∧ w'.cell? ⟨gb373, 4, none⟩ = some (.int .i64 a1_4) ∧ w'.cell? ⟨gb373, 5, none⟩ = some (.int .i64 a1_5) ∧ w'.cell? ⟨gb373, 6, none⟩ = some (.int .i64 a1_6)) (ds := []) #[false, false, false, false, false, false, false, false, false] (by kernel_rfl) rfl rfl ⟨(blk_cell BK373.out 0).trans rfl, (blk_cell BK373.out 1).trans rfl, (blk_cell BK373.out 2).trans rfl, (blk_cell BK373.out 3).trans rfl, (blk_cell BK373.out 4).trans rfl, (blk_cell BK373.out 5).trans rfl, (blk_cell BK373.out 6).trans rfl⟩ (fun hHeld => ?_); refine with_tabW hopmeshlaw14_CompressBack.tab5 hopmeshlaw14_CompressBack.bits5 (fun HT_ HW_ => ?_)
        generalize wc.drew = w124 at BK373 HB hHeld ⊢
        refine pu_ HT_ 0 30 (bl 9 1) ?_
        refine tk_ HT_ HW_ hHeld 2 32 (bl 9 5) ?_
        refine one_ (i := 1) (N := some 31) (bl 9 7) rfl rfl (one_of HT_.out (by kernel_rfl)) (by decide) (fun K hK => ?_)
        refine goes_ Try.func14 (by kernel_rfl) rfl #[.slice A0 l0.length c0] (by rfl) rfl rfl am_ ?_
        with_reducible refine (api_Context.calls _ _ l0 t377 _ ?side1 ?side2 A21.out).mono ?_
        (case side1 => repeat (first | exact (Kd.C_below HR0.out HB.out) | (with_reducible refine Kd.C_alloc ?_ _) | (with_reducible refine Kd.C_drewN ?_ _) | (with_reducible refine Kd.C_drew ?_)))
        (case side2 => exact HC0.out)
        rintro e w125 ⟨v378, rfl, ho0, hb⟩
        refine ⟨_, rfl, ?_⟩
        have n0_ := Aside0.mk (Kd.R_lower ho0 (below_size hb_))
        have n1_ := bk_ BK373 hb
        have n2_ := Aside0.mk (below_step hb_ hb)
        clear BK373
        clear HB
        have HO379 := n0_
        have BK373 := n1_
        have HB := n2_
        clear n0_ n1_ n2_
        (try clear hb)
        (try clear hb2)
        (try clear hk)
        (try clear hi)
        (try clear ho0)
        obtain ⟨Ao126, co126, eo126⟩ := Kd.R_slice HO379.out
        (first | subst eo126 | (injection eo126 with f1_ f2_ f3_; have f4_ := f1_.symm; have f5_ := f3_.symm; clear f1_ f2_ f3_; subst f4_; subst f5_))
        refine hK.out _ _ ⟨(blk_cell BK373.out 0).trans rfl, (blk_cell BK373.out 1).trans rfl, (blk_cell BK373.out 2).trans rfl, (blk_cell BK373.out 3).trans rfl, (blk_cell BK373.out 4).trans rfl, (blk_cell BK373.out 5).trans rfl, (blk_cell BK373.out 6).trans rfl⟩ (fun hHeld => ?_)
        clear hK K
        refine norm_ (a' := ?_) ?_ ?_
        rotate_left
        ·
         show Act.put _ (some 31) _ = _
         simp only [ap_, s0_, s1_, i64_w]
         rfl
        refine one_ (i := 3) (N := some 33) (bl 9 15) rfl rfl (one_of HT_.out (by kernel_rfl)) (by decide) (fun K hK => ?_)
        refine goes_ Try.func17 (by kernel_rfl) rfl #[.slice Ao126 t377.length co126, .agg #[.int .i64 a1_0, .int .i64 a1_1, .string a1_2, .string a1_3, .int .i64 a1_4, .int .i64 a1_5, .int .i64 a1_6]] (by rfl) rfl rfl am_ ?_
        with_reducible refine (compress_Compress.calls _ _ t377 a1_0 a1_1 a1_2 a1_3 a1_4 a1_5 a1_6 t380 t381 _ ?side1 ?side2 A22.out).mono ?_
        (case side1 => repeat (first | exact (Kd.R_reads' HO379.out).2.2 | (with_reducible refine Kd.C_alloc ?_ _) | (with_reducible refine Kd.C_drewN ?_ _) | (with_reducible refine Kd.C_drew ?_)))
        (case side2 => exact (Kd.R_reads' HO379.out).2.1)
        rintro e w127 ⟨rfl, hb⟩
        refine ⟨_, rfl, ?_⟩
        have n0_ := Aside0.mk (Kd.R_below (kr_ HO379) hb)
        have n1_ := bk_ BK373 hb
        have n2_ := Aside0.mk (below_step hb_ hb)
        clear HO379
        clear BK373
        clear HB
        have HO379 := n0_
        have BK373 := n1_
        have HB := n2_
        clear n0_ n1_ n2_
        (try clear hb)
        (try clear hb2)
        (try clear hk)
        (try clear hi)
        refine hK.out _ _ ⟨(blk_cell BK373.out 0).trans rfl, (blk_cell BK373.out 1).trans rfl, (blk_cell BK373.out 2).trans rfl, (blk_cell BK373.out 3).trans rfl, (blk_cell BK373.out 4).trans rfl, (blk_cell BK373.out 5).trans rfl, (blk_cell BK373.out 6).trans rfl⟩ (fun hHeld => ?_)
        clear hK K
        refine norm_ (a' := ?_) ?_ ?_
        rotate_left
        ·
         show Act.put _ (some 33) _ = _
         simp only [ap_, s0_, s1_, i64_w]
         rfl
        refine pu_ HT_ 4 29 (bl 9 31) ?_
        refine pu_ HT_ 5 34 (bl 9 63) ?_
        refine pu_ HT_ 6 35 (bl 9 127) ?_
        refine pu_ HT_ 7 7 (bl 9 255) ?_
        refine pu_ HT_ 8 8 (bl 9 511) ?_
        refine done_ (done_of HT_.out (by kernel_rfl)) ?_
        try go_wp2
        have n0_ := Aside0.mk (Kd.R_drew HO379.out)
        have n1_ := Aside0.mk (blk_drew BK373.out)
        have n2_ := Aside0.mk (below_drew1 HB.out)
        clear HO379
        clear BK373
        clear HB
        have HO379 := n0_
        have BK373 := n1_
        have HB := n2_
        clear n0_ n1_ n2_
        refine start_ (n := 9) (S := fun w' => w'.cell? ⟨gb373, 0, none⟩ = some (.int .i64 a1_0) ∧ w'.cell? ⟨gb373, 1, none⟩ = some (.int .i64 a1_1) ∧ w'.cell? ⟨gb373, 2, none⟩ = some (.string a1_2) ∧ w'.cell? ⟨gb373, 3, none⟩ = some (.string a1_3) ∧ w'.cell? ⟨gb373, 4, none⟩ = some (.int .i64 a1_4) ∧ w'.cell? ⟨gb373, 5, none⟩ = some (.int .i64 a1_5) ∧ w'.cell? ⟨gb373, 6, none⟩ = some (.int .i64 a1_6)) (ds := []) #[false, false, false, false, false, false, false, false, false] (by kernel_rfl) rfl rfl ⟨(blk_cell BK373.out 0).trans rfl, (blk_cell BK373.out 1).trans rfl, (blk_cell BK373.out 2).trans rfl, (blk_cell BK373.out 3).trans rfl, (blk_cell BK373.out 4).trans rfl, (blk_cell BK373.out 5).trans rfl, (blk_cell BK373.out 6).trans rfl⟩ (fun hHeld => ?_); refine with_tabW hopmeshlaw14_CompressBack.tab6 hopmeshlaw14_CompressBack.bits6 (fun HT_ HW_ => ?_)
        generalize w127.drew = w128 at HO379 BK373 HB hHeld ⊢
        refine pu_ HT_ 0 37 (bl 9 1) ?_
        refine tk_ HT_ HW_ hHeld 2 39 (bl 9 5) ?_
        refine one_ (i := 1) (N := some 38) (bl 9 7) rfl rfl (one_of HT_.out (by kernel_rfl)) (by decide) (fun K hK => ?_)
        refine goes_ Try.func14 (by kernel_rfl) rfl #[.slice A0 l0.length c0] (by rfl) rfl rfl am_ ?_
        with_reducible refine (api_Context.calls _ _ l0 t382 _ ?side1 ?side2 A23.out).mono ?_
        (case side1 => repeat (first | exact (Kd.C_below HR0.out HB.out) | (with_reducible refine Kd.C_alloc ?_ _) | (with_reducible refine Kd.C_drewN ?_ _) | (with_reducible refine Kd.C_drew ?_)))
        (case side2 => exact HC0.out)
        rintro e w129 ⟨v383, rfl, ho0, hb⟩
        refine ⟨_, rfl, ?_⟩
        have n0_ := Aside0.mk (Kd.R_elder' (kr_ HO379) (Kd.R_base ho0) hb)
        have n1_ := Aside0.mk (Kd.R_lower (Kd.R_new' ho0 (Kd.R_lt (kr_ HO379))) (below_size hb_))
        have n2_ := bk_ BK373 hb
        have n3_ := Aside0.mk (below_step hb_ hb)
        clear HO379
        clear BK373
        clear HB
        have HO379 := n0_
        have HO384 := n1_
        have BK373 := n2_
        have HB := n3_
        clear n0_ n1_ n2_ n3_
        (try clear hb)
        (try clear hb2)
        (try clear hk)
        (try clear hi)
        (try clear ho0)
        obtain ⟨Ao130, co130, eo130⟩ := Kd.R_slice HO384.out
        (first | subst eo130 | (injection eo130 with f1_ f2_ f3_; have f4_ := f1_.symm; have f5_ := f3_.symm; clear f1_ f2_ f3_; subst f4_; subst f5_))
        refine hK.out _ _ ⟨(blk_cell BK373.out 0).trans rfl, (blk_cell BK373.out 1).trans rfl, (blk_cell BK373.out 2).trans rfl, (blk_cell BK373.out 3).trans rfl, (blk_cell BK373.out 4).trans rfl, (blk_cell BK373.out 5).trans rfl, (blk_cell BK373.out 6).trans rfl⟩ (fun hHeld => ?_)
        clear hK K
        refine norm_ (a' := ?_) ?_ ?_
        rotate_left
        ·
         show Act.put _ (some 38) _ = _
         simp only [ap_, s0_, s1_, i64_w]
         rfl
        refine one_ (i := 3) (N := some 40) (bl 9 15) rfl rfl (one_of HT_.out (by kernel_rfl)) (by decide) (fun K hK => ?_)
        refine goes_ Try.func13 (by kernel_rfl) rfl #[.slice Ao130 t382.length co130, .agg #[.int .i64 a1_0, .int .i64 a1_1, .string a1_2, .string a1_3, .int .i64 a1_4, .int .i64 a1_5, .int .i64 a1_6]] (by rfl) rfl rfl am_ ?_
        with_reducible refine (compress_Bits.calls _ _ t382 a1_0 a1_1 a1_2 a1_3 a1_4 a1_5 a1_6 t385 t386 _ ?side1 ?side2 A24.out).mono ?_
        (case side1 => repeat (first | exact (Kd.R_reads' HO384.out).2.2 | (with_reducible refine Kd.C_alloc ?_ _) | (with_reducible refine Kd.C_drewN ?_ _) | (with_reducible refine Kd.C_drew ?_)))
        (case side2 => exact (Kd.R_reads' HO384.out).2.1)
        rintro e w131 ⟨rfl, hb⟩
        refine ⟨_, rfl, ?_⟩
        have n0_ := Aside0.mk (Kd.R_below (kr_ HO379) hb)
        have n1_ := Aside0.mk (Kd.R_below (kr_ HO384) hb)
        have n2_ := bk_ BK373 hb
        have n3_ := Aside0.mk (below_step hb_ hb)
        clear HO379
        clear HO384
        clear BK373
        clear HB
        have HO379 := n0_
        have HO384 := n1_
        have BK373 := n2_
        have HB := n3_
        clear n0_ n1_ n2_ n3_
        (try clear hb)
        (try clear hb2)
        (try clear hk)
        (try clear hi)
        refine hK.out _ _ ⟨(blk_cell BK373.out 0).trans rfl, (blk_cell BK373.out 1).trans rfl, (blk_cell BK373.out 2).trans rfl, (blk_cell BK373.out 3).trans rfl, (blk_cell BK373.out 4).trans rfl, (blk_cell BK373.out 5).trans rfl, (blk_cell BK373.out 6).trans rfl⟩ (fun hHeld => ?_)
        clear hK K
        refine norm_ (a' := ?_) ?_ ?_
        rotate_left
        ·
         show Act.put _ (some 40) _ = _
         simp only [ap_, s0_, s1_, i64_w]
         rfl
        refine pu_ HT_ 4 36 (bl 9 31) ?_
        refine pu_ HT_ 5 41 (bl 9 63) ?_
        refine pu_ HT_ 6 42 (bl 9 127) ?_
        refine pu_ HT_ 7 9 (bl 9 255) ?_
        refine pu_ HT_ 8 10 (bl 9 511) ?_
        refine done_ (done_of HT_.out (by kernel_rfl)) ?_
        try go_wp2_with (first | ((with_reducible refine gate_callee (f := 14) rfl ?_); refine goesL_ (some 62) rfl rfl Try.func14 (by kernel_rfl) rfl #[.slice A0 l0.length c0] rfl am_ ?_; (with_reducible refine (api_Context.calls _ _ l0 t387 _ ?side1 ?side2 A26.out).mono ?_); (case side1 => repeat (first | exact (Kd.C_below HR0.out HB.out) | (with_reducible refine Kd.C_alloc ?_ _) | (with_reducible refine Kd.C_drewN ?_ _) | (with_reducible refine Kd.C_drew ?_))); (case side2 => exact HC0.out); rintro e w132 ⟨v388, rfl, ho0, hb⟩; refine ⟨_, rfl, ?_⟩; have n0_ := Aside0.mk (Kd.R_elder' (kr_ HO379) (Kd.R_base ho0) hb); have n1_ := Aside0.mk (Kd.R_elder' (kr_ HO384) (Kd.R_base ho0) hb); have n2_ := Aside0.mk (Kd.R_lower (Kd.R_new' (Kd.R_new' ho0 (Kd.R_lt (kr_ HO379))) (Kd.R_lt (kr_ HO384))) (below_size hb_)); have n3_ := bk_ BK373 hb; have n4_ := Aside0.mk (below_step hb_ hb); clear HO379; clear HO384; clear BK373; clear HB; have HO379 := n0_; have HO384 := n1_; have HO389 := n2_; have BK373 := n3_; have HB := n4_; clear n0_ n1_ n2_ n3_ n4_; (try clear hb); (try clear hb2); (try clear hk); (try clear hi); (try clear ho0); obtain ⟨Ao133, co133, eo133⟩ := Kd.R_slice HO389.out; subst eo133) | ((with_reducible refine gate_callee (f := 24) rfl ?_); refine goesL_ (some 66) rfl rfl Try.func24 (by kernel_rfl) rfl #[.slice Ao133 t387.length co133, .string (t380 ++ a2)] rfl am_ ?_; (with_reducible refine (compress_Expand.calls _ _ t387 (t380 ++ a2) t390 t391 t392 t393 t394 t395 t396 t397 t398 _ ?side1 ?side2 A28.out).mono ?_); (case side1 => repeat (first | exact (Kd.R_reads' HO389.out).2.2 | (with_reducible refine Kd.C_alloc ?_ _) | (with_reducible refine Kd.C_drewN ?_ _) | (with_reducible refine Kd.C_drew ?_))); (case side2 => exact (Kd.R_reads' HO389.out).2.1); rintro e w134 ⟨rfl, hb⟩; refine ⟨_, rfl, ?_⟩; have n0_ := Aside0.mk (Kd.R_below (kr_ HO379) hb); have n1_ := Aside0.mk (Kd.R_below (kr_ HO384) hb); have n2_ := Aside0.mk (Kd.R_below (kr_ HO389) hb); have n3_ := bk_ BK373 hb; have n4_ := Aside0.mk (below_step hb_ hb); clear HO379; clear HO384; clear HO389; clear BK373; clear HB; have HO379 := n0_; have HO384 := n1_; have HO389 := n2_; have BK373 := n3_; have HB := n4_; clear n0_ n1_ n2_ n3_ n4_; (try clear hb); (try clear hb2); (try clear hk); (try clear hi)) | ((with_reducible refine gate_dst (N := 11) rfl ?_); refine bx_ 11 #[.int .i64 0, .int .i64 0, .string (⟨#[]⟩ : ByteArray), .string (⟨#[]⟩ : ByteArray), .int .i64 0, .int .i64 0, .int .i64 0] 24 ?_; intro gb399 hg w135 hbox hb; have n0_ := Aside0.mk (Kd.R_below (kr_ HO379) hb); have n1_ := Aside0.mk (Kd.R_below (kr_ HO384) hb); have n2_ := Aside0.mk (Kd.R_below (kr_ HO389) hb); have n3_ := bk_ BK373 hb; have n4_ := Aside0.mk (below_step hb_ hb); have n5_ := Aside0.mk (hbox); have n6_ := Aside0.mk ((by rw [hg]; exact (below_size hb_) : w.heap.size ≤ gb399)); have n7_ := Aside0.mk ((by rw [hg]; exact (below_size hb_) : w.heap.size ≤ gb399)); have n8_ := Aside0.mk ((by rw [hg]; exact Nat.ne_of_lt (blk_lt (bj_ BK373)) : gb373 ≠ gb399)); have n9_ := Aside0.mk ((by rw [hg]; exact Nat.ne_of_gt (blk_lt (bj_ BK373)) : gb399 ≠ gb373)); clear HO379; clear HO384; clear HO389; clear BK373; clear HB; have HO379 := n0_; have HO384 := n1_; have HO389 := n2_; have BK373 := n3_; have HB := n4_; have BK399 := n5_; have GW399 := n6_; have GE399 := n7_; have NB373_399 := n8_; have NB399_373 := n9_; clear n0_ n1_ n2_ n3_ n4_ n5_ n6_ n7_ n8_ n9_; clear hb hbox hg; have hnb136 := NB399_373.out; have hnc136 := NB373_399.out; have hcz137_0 := bc0 BK399; have hcz137_1 := bc1 BK399; have hcz137_2 := bc2 BK399; have hcz137_3 := bc3 BK399; have hcz137_4 := bc4 BK399; have hcz137_5 := bc5 BK399; have hcz137_6 := bc6 BK399; have hfz137_0 := blk_frozen BK399.out 0; have hfz137_1 := blk_frozen BK399.out 1; have hfz137_2 := blk_frozen BK399.out 2; have hfz137_3 := blk_frozen BK399.out 3; have hfz137_4 := blk_frozen BK399.out 4; have hfz137_5 := blk_frozen BK399.out 5; have hfz137_6 := blk_frozen BK399.out 6))
        go_ret
        exact ⟨er_, hb_⟩
      ·
       rw [if_neg c27] at H
       exact absurd H (by simp)
     ·
      rw [if_neg c25] at H
      have c25b0 : (t381 == 0) = false := beq_eq_false_iff_ne.mpr c25
      have c25b1 : (t381 != 0) = true := bne_iff_ne.mpr c25
      by_cases c138 : t381 = 1
      ·
       rw [if_pos c138] at H
       have c138b0 : (t381 == 1) = true := beq_iff_eq.mpr c138
       have c138b1 : (t381 != 1) = false := bne_eq_false_iff_eq.mpr c138
       clear c138
       by_cases c139 : t380.toList = ([] : List UInt8)
       ·
        rw [if_pos c139] at H
        have c139b0 : (t380.toList == ([] : List UInt8)) = true := beq_iff_eq.mpr c139
        have c139b1 : (t380.toList != ([] : List UInt8)) = false := bne_eq_false_iff_eq.mpr c139
        clear c139
        by_cases c140 : t386 = t381
        ·
         rw [if_pos c140] at H
         have c140b0 : (t386 == t381) = true := beq_iff_eq.mpr c140
         have c140b1 : (t386 != t381) = false := bne_eq_false_iff_eq.mpr c140
         clear c140
         obtain rfl := Option.some.inj H
         try go_wp2
         have n0_ := Aside0.mk (blk_drew BK373.out)
         have n1_ := Aside0.mk (below_drew1 HB.out)
         clear BK373
         clear HB
         have BK373 := n0_
         have HB := n1_
         clear n0_ n1_
         refine start_ (n := 9) (S := fun w' => w'.cell? ⟨gb373, 0, none⟩ = some (.int .i64 a1_0) ∧ w'.cell? ⟨gb373, 1, none⟩ = some (.int .i64 a1_1) ∧ w'.cell? ⟨gb373, 2, none⟩ = some (.string a1_2) ∧ w'.cell? ⟨gb373, 3, none⟩ = some (.string a1_3) ∧ w'.cell? ⟨gb373, 4, none⟩ = some (.int .i64 a1_4) ∧ w'.cell? ⟨gb373, 5, none⟩ = some (.int .i64 a1_5) ∧ w'.cell? ⟨gb373, 6, none⟩ = some (.int .i64 a1_6)) (ds := []) #[false, false, false, false, false, false, false, false, false] (by kernel_rfl) rfl rfl ⟨(blk_cell BK373.out 0).trans rfl, (blk_cell BK373.out 1).trans rfl, (blk_cell BK373.out 2).trans rfl, (blk_cell BK373.out 3).trans rfl, (blk_cell BK373.out 4).trans rfl, (blk_cell BK373.out 5).trans rfl, (blk_cell BK373.out 6).trans rfl⟩ (fun hHeld => ?_); refine with_tabW hopmeshlaw14_CompressBack.tab5 hopmeshlaw14_CompressBack.bits5 (fun HT_ HW_ => ?_)
         generalize wc.drew = w141 at BK373 HB hHeld ⊢
         refine pu_ HT_ 0 30 (bl 9 1) ?_
         refine tk_ HT_ HW_ hHeld 2 32 (bl 9 5) ?_
         refine one_ (i := 1) (N := some 31) (bl 9 7) rfl rfl (one_of HT_.out (by kernel_rfl)) (by decide) (fun K hK => ?_)
         refine goes_ Try.func14 (by kernel_rfl) rfl #[.slice A0 l0.length c0] (by rfl) rfl rfl am_ ?_
         with_reducible refine (api_Context.calls _ _ l0 t377 _ ?side1 ?side2 A21.out).mono ?_
         (case side1 => repeat (first | exact (Kd.C_below HR0.out HB.out) | (with_reducible refine Kd.C_alloc ?_ _) | (with_reducible refine Kd.C_drewN ?_ _) | (with_reducible refine Kd.C_drew ?_)))
         (case side2 => exact HC0.out)
         rintro e w142 ⟨v378, rfl, ho0, hb⟩
         refine ⟨_, rfl, ?_⟩
         have n0_ := Aside0.mk (Kd.R_lower ho0 (below_size hb_))
         have n1_ := bk_ BK373 hb
         have n2_ := Aside0.mk (below_step hb_ hb)
         clear BK373
         clear HB
         have HO379 := n0_
         have BK373 := n1_
         have HB := n2_
         clear n0_ n1_ n2_
         (try clear hb)
         (try clear hb2)
         (try clear hk)
         (try clear hi)
         (try clear ho0)
         obtain ⟨Ao143, co143, eo143⟩ := Kd.R_slice HO379.out
         (first | subst eo143 | (injection eo143 with f1_ f2_ f3_; have f4_ := f1_.symm; have f5_ := f3_.symm; clear f1_ f2_ f3_; subst f4_; subst f5_))
         refine hK.out _ _ ⟨(blk_cell BK373.out 0).trans rfl, (blk_cell BK373.out 1).trans rfl, (blk_cell BK373.out 2).trans rfl, (blk_cell BK373.out 3).trans rfl, (blk_cell BK373.out 4).trans rfl, (blk_cell BK373.out 5).trans rfl, (blk_cell BK373.out 6).trans rfl⟩ (fun hHeld => ?_)
         clear hK K
         refine norm_ (a' := ?_) ?_ ?_
         rotate_left
         ·
          show Act.put _ (some 31) _ = _
          simp only [ap_, s0_, s1_, i64_w]
          rfl
         refine one_ (i := 3) (N := some 33) (bl 9 15) rfl rfl (one_of HT_.out (by kernel_rfl)) (by decide) (fun K hK => ?_)
         refine goes_ Try.func17 (by kernel_rfl) rfl #[.slice Ao143 t377.length co143, .agg #[.int .i64 a1_0, .int .i64 a1_1, .string a1_2, .string a1_3, .int .i64 a1_4, .int .i64 a1_5, .int .i64 a1_6]] (by rfl) rfl rfl am_ ?_
         with_reducible refine (compress_Compress.calls _ _ t377 a1_0 a1_1 a1_2 a1_3 a1_4 a1_5 a1_6 t380 t381 _ ?side1 ?side2 A22.out).mono ?_
         (case side1 => repeat (first | exact (Kd.R_reads' HO379.out).2.2 | (with_reducible refine Kd.C_alloc ?_ _) | (with_reducible refine Kd.C_drewN ?_ _) | (with_reducible refine Kd.C_drew ?_)))
         (case side2 => exact (Kd.R_reads' HO379.out).2.1)
         rintro e w144 ⟨rfl, hb⟩
         refine ⟨_, rfl, ?_⟩
         have n0_ := Aside0.mk (Kd.R_below (kr_ HO379) hb)
         have n1_ := bk_ BK373 hb
         have n2_ := Aside0.mk (below_step hb_ hb)
         clear HO379
         clear BK373
         clear HB
         have HO379 := n0_
         have BK373 := n1_
         have HB := n2_
         clear n0_ n1_ n2_
         (try clear hb)
         (try clear hb2)
         (try clear hk)
         (try clear hi)
         refine hK.out _ _ ⟨(blk_cell BK373.out 0).trans rfl, (blk_cell BK373.out 1).trans rfl, (blk_cell BK373.out 2).trans rfl, (blk_cell BK373.out 3).trans rfl, (blk_cell BK373.out 4).trans rfl, (blk_cell BK373.out 5).trans rfl, (blk_cell BK373.out 6).trans rfl⟩ (fun hHeld => ?_)
         clear hK K
         refine norm_ (a' := ?_) ?_ ?_
         rotate_left
         ·
          show Act.put _ (some 33) _ = _
          simp only [ap_, s0_, s1_, i64_w]
          rfl
         refine pu_ HT_ 4 29 (bl 9 31) ?_
         refine pu_ HT_ 5 34 (bl 9 63) ?_
         refine pu_ HT_ 6 35 (bl 9 127) ?_
         refine pu_ HT_ 7 7 (bl 9 255) ?_
         refine pu_ HT_ 8 8 (bl 9 511) ?_
         refine done_ (done_of HT_.out (by kernel_rfl)) ?_
         try go_wp2
         have n0_ := Aside0.mk (Kd.R_drew HO379.out)
         have n1_ := Aside0.mk (blk_drew BK373.out)
         have n2_ := Aside0.mk (below_drew1 HB.out)
         clear HO379
         clear BK373
         clear HB
         have HO379 := n0_
         have BK373 := n1_
         have HB := n2_
         clear n0_ n1_ n2_
         refine start_ (n := 9) (S := fun w' => w'.cell? ⟨gb373, 0, none⟩ = some (.int .i64 a1_0) ∧ w'.cell? ⟨gb373, 1, none⟩ = some (.int .i64 a1_1) ∧ w'.cell? ⟨gb373, 2, none⟩ = some (.string a1_2) ∧ w'.cell? ⟨gb373, 3, none⟩ = some (.string a1_3) ∧ w'.cell? ⟨gb373, 4, none⟩ = some (.int .i64 a1_4) ∧ w'.cell? ⟨gb373, 5, none⟩ = some (.int .i64 a1_5) ∧ w'.cell? ⟨gb373, 6, none⟩ = some (.int .i64 a1_6)) (ds := []) #[false, false, false, false, false, false, false, false, false] (by kernel_rfl) rfl rfl ⟨(blk_cell BK373.out 0).trans rfl, (blk_cell BK373.out 1).trans rfl, (blk_cell BK373.out 2).trans rfl, (blk_cell BK373.out 3).trans rfl, (blk_cell BK373.out 4).trans rfl, (blk_cell BK373.out 5).trans rfl, (blk_cell BK373.out 6).trans rfl⟩ (fun hHeld => ?_); refine with_tabW hopmeshlaw14_CompressBack.tab6 hopmeshlaw14_CompressBack.bits6 (fun HT_ HW_ => ?_)
         generalize w144.drew = w145 at HO379 BK373 HB hHeld ⊢
         refine pu_ HT_ 0 37 (bl 9 1) ?_
         refine tk_ HT_ HW_ hHeld 2 39 (bl 9 5) ?_
         refine one_ (i := 1) (N := some 38) (bl 9 7) rfl rfl (one_of HT_.out (by kernel_rfl)) (by decide) (fun K hK => ?_)
         refine goes_ Try.func14 (by kernel_rfl) rfl #[.slice A0 l0.length c0] (by rfl) rfl rfl am_ ?_
         with_reducible refine (api_Context.calls _ _ l0 t382 _ ?side1 ?side2 A23.out).mono ?_
         (case side1 => repeat (first | exact (Kd.C_below HR0.out HB.out) | (with_reducible refine Kd.C_alloc ?_ _) | (with_reducible refine Kd.C_drewN ?_ _) | (with_reducible refine Kd.C_drew ?_)))
         (case side2 => exact HC0.out)
         rintro e w146 ⟨v383, rfl, ho0, hb⟩
         refine ⟨_, rfl, ?_⟩
         have n0_ := Aside0.mk (Kd.R_elder' (kr_ HO379) (Kd.R_base ho0) hb)
         have n1_ := Aside0.mk (Kd.R_lower (Kd.R_new' ho0 (Kd.R_lt (kr_ HO379))) (below_size hb_))
         have n2_ := bk_ BK373 hb
         have n3_ := Aside0.mk (below_step hb_ hb)
         clear HO379
         clear BK373
         clear HB
         have HO379 := n0_
         have HO384 := n1_
         have BK373 := n2_
         have HB := n3_
         clear n0_ n1_ n2_ n3_
         (try clear hb)
         (try clear hb2)
         (try clear hk)
         (try clear hi)
         (try clear ho0)
         obtain ⟨Ao147, co147, eo147⟩ := Kd.R_slice HO384.out
         (first | subst eo147 | (injection eo147 with f1_ f2_ f3_; have f4_ := f1_.symm; have f5_ := f3_.symm; clear f1_ f2_ f3_; subst f4_; subst f5_))
         refine hK.out _ _ ⟨(blk_cell BK373.out 0).trans rfl, (blk_cell BK373.out 1).trans rfl, (blk_cell BK373.out 2).trans rfl, (blk_cell BK373.out 3).trans rfl, (blk_cell BK373.out 4).trans rfl, (blk_cell BK373.out 5).trans rfl, (blk_cell BK373.out 6).trans rfl⟩ (fun hHeld => ?_)
         clear hK K
         refine norm_ (a' := ?_) ?_ ?_
         rotate_left
         ·
          show Act.put _ (some 38) _ = _
          simp only [ap_, s0_, s1_, i64_w]
          rfl
         refine one_ (i := 3) (N := some 40) (bl 9 15) rfl rfl (one_of HT_.out (by kernel_rfl)) (by decide) (fun K hK => ?_)
         refine goes_ Try.func13 (by kernel_rfl) rfl #[.slice Ao147 t382.length co147, .agg #[.int .i64 a1_0, .int .i64 a1_1, .string a1_2, .string a1_3, .int .i64 a1_4, .int .i64 a1_5, .int .i64 a1_6]] (by rfl) rfl rfl am_ ?_
         with_reducible refine (compress_Bits.calls _ _ t382 a1_0 a1_1 a1_2 a1_3 a1_4 a1_5 a1_6 t385 t386 _ ?side1 ?side2 A24.out).mono ?_
         (case side1 => repeat (first | exact (Kd.R_reads' HO384.out).2.2 | (with_reducible refine Kd.C_alloc ?_ _) | (with_reducible refine Kd.C_drewN ?_ _) | (with_reducible refine Kd.C_drew ?_)))
         (case side2 => exact (Kd.R_reads' HO384.out).2.1)
         rintro e w148 ⟨rfl, hb⟩
         refine ⟨_, rfl, ?_⟩
         have n0_ := Aside0.mk (Kd.R_below (kr_ HO379) hb)
         have n1_ := Aside0.mk (Kd.R_below (kr_ HO384) hb)
         have n2_ := bk_ BK373 hb
         have n3_ := Aside0.mk (below_step hb_ hb)
         clear HO379
         clear HO384
         clear BK373
         clear HB
         have HO379 := n0_
         have HO384 := n1_
         have BK373 := n2_
         have HB := n3_
         clear n0_ n1_ n2_ n3_
         (try clear hb)
         (try clear hb2)
         (try clear hk)
         (try clear hi)
         refine hK.out _ _ ⟨(blk_cell BK373.out 0).trans rfl, (blk_cell BK373.out 1).trans rfl, (blk_cell BK373.out 2).trans rfl, (blk_cell BK373.out 3).trans rfl, (blk_cell BK373.out 4).trans rfl, (blk_cell BK373.out 5).trans rfl, (blk_cell BK373.out 6).trans rfl⟩ (fun hHeld => ?_)
         clear hK K
         refine norm_ (a' := ?_) ?_ ?_
         rotate_left
         ·
          show Act.put _ (some 40) _ = _
          simp only [ap_, s0_, s1_, i64_w]
          rfl
         refine pu_ HT_ 4 36 (bl 9 31) ?_
         refine pu_ HT_ 5 41 (bl 9 63) ?_
         refine pu_ HT_ 6 42 (bl 9 127) ?_
         refine pu_ HT_ 7 9 (bl 9 255) ?_
         refine pu_ HT_ 8 10 (bl 9 511) ?_
         refine done_ (done_of HT_.out (by kernel_rfl)) ?_
         try go_wp2
         go_ret
         exact ⟨er_, hb_⟩
        ·
         rw [if_neg c140] at H
         have c140b0 : (t386 == t381) = false := beq_eq_false_iff_ne.mpr c140
         have c140b1 : (t386 != t381) = true := bne_iff_ne.mpr c140
         obtain rfl := Option.some.inj H
         try go_wp2
         have n0_ := Aside0.mk (blk_drew BK373.out)
         have n1_ := Aside0.mk (below_drew1 HB.out)
         clear BK373
         clear HB
         have BK373 := n0_
         have HB := n1_
         clear n0_ n1_
         refine start_ (n := 9) (S := fun w' => w'.cell? ⟨gb373, 0, none⟩ = some (.int .i64 a1_0) ∧ w'.cell? ⟨gb373, 1, none⟩ = some (.int .i64 a1_1) ∧ w'.cell? ⟨gb373, 2, none⟩ = some (.string a1_2) ∧ w'.cell? ⟨gb373, 3, none⟩ = some (.string a1_3) ∧ w'.cell? ⟨gb373, 4, none⟩ = some (.int .i64 a1_4) ∧ w'.cell? ⟨gb373, 5, none⟩ = some (.int .i64 a1_5) ∧ w'.cell? ⟨gb373, 6, none⟩ = some (.int .i64 a1_6)) (ds := []) #[false, false, false, false, false, false, false, false, false] (by kernel_rfl) rfl rfl ⟨(blk_cell BK373.out 0).trans rfl, (blk_cell BK373.out 1).trans rfl, (blk_cell BK373.out 2).trans rfl, (blk_cell BK373.out 3).trans rfl, (blk_cell BK373.out 4).trans rfl, (blk_cell BK373.out 5).trans rfl, (blk_cell BK373.out 6).trans rfl⟩ (fun hHeld => ?_); refine with_tabW hopmeshlaw14_CompressBack.tab5 hopmeshlaw14_CompressBack.bits5 (fun HT_ HW_ => ?_)
         generalize wc.drew = w149 at BK373 HB hHeld ⊢
         refine pu_ HT_ 0 30 (bl 9 1) ?_
         refine tk_ HT_ HW_ hHeld 2 32 (bl 9 5) ?_
         refine one_ (i := 1) (N := some 31) (bl 9 7) rfl rfl (one_of HT_.out (by kernel_rfl)) (by decide) (fun K hK => ?_)
         refine goes_ Try.func14 (by kernel_rfl) rfl #[.slice A0 l0.length c0] (by rfl) rfl rfl am_ ?_
         with_reducible refine (api_Context.calls _ _ l0 t377 _ ?side1 ?side2 A21.out).mono ?_
         (case side1 => repeat (first | exact (Kd.C_below HR0.out HB.out) | (with_reducible refine Kd.C_alloc ?_ _) | (with_reducible refine Kd.C_drewN ?_ _) | (with_reducible refine Kd.C_drew ?_)))
         (case side2 => exact HC0.out)
         rintro e w150 ⟨v378, rfl, ho0, hb⟩
         refine ⟨_, rfl, ?_⟩
         have n0_ := Aside0.mk (Kd.R_lower ho0 (below_size hb_))
         have n1_ := bk_ BK373 hb
         have n2_ := Aside0.mk (below_step hb_ hb)
         clear BK373
         clear HB
         have HO379 := n0_
         have BK373 := n1_
         have HB := n2_
         clear n0_ n1_ n2_
         (try clear hb)
         (try clear hb2)
         (try clear hk)
         (try clear hi)
         (try clear ho0)
         obtain ⟨Ao151, co151, eo151⟩ := Kd.R_slice HO379.out
         (first | subst eo151 | (injection eo151 with f1_ f2_ f3_; have f4_ := f1_.symm; have f5_ := f3_.symm; clear f1_ f2_ f3_; subst f4_; subst f5_))
         refine hK.out _ _ ⟨(blk_cell BK373.out 0).trans rfl, (blk_cell BK373.out 1).trans rfl, (blk_cell BK373.out 2).trans rfl, (blk_cell BK373.out 3).trans rfl, (blk_cell BK373.out 4).trans rfl, (blk_cell BK373.out 5).trans rfl, (blk_cell BK373.out 6).trans rfl⟩ (fun hHeld => ?_)
         clear hK K
         refine norm_ (a' := ?_) ?_ ?_
         rotate_left
         ·
          show Act.put _ (some 31) _ = _
          simp only [ap_, s0_, s1_, i64_w]
          rfl
         refine one_ (i := 3) (N := some 33) (bl 9 15) rfl rfl (one_of HT_.out (by kernel_rfl)) (by decide) (fun K hK => ?_)
         refine goes_ Try.func17 (by kernel_rfl) rfl #[.slice Ao151 t377.length co151, .agg #[.int .i64 a1_0, .int .i64 a1_1, .string a1_2, .string a1_3, .int .i64 a1_4, .int .i64 a1_5, .int .i64 a1_6]] (by rfl) rfl rfl am_ ?_
         with_reducible refine (compress_Compress.calls _ _ t377 a1_0 a1_1 a1_2 a1_3 a1_4 a1_5 a1_6 t380 t381 _ ?side1 ?side2 A22.out).mono ?_
         (case side1 => repeat (first | exact (Kd.R_reads' HO379.out).2.2 | (with_reducible refine Kd.C_alloc ?_ _) | (with_reducible refine Kd.C_drewN ?_ _) | (with_reducible refine Kd.C_drew ?_)))
         (case side2 => exact (Kd.R_reads' HO379.out).2.1)
         rintro e w152 ⟨rfl, hb⟩
         refine ⟨_, rfl, ?_⟩
         have n0_ := Aside0.mk (Kd.R_below (kr_ HO379) hb)
         have n1_ := bk_ BK373 hb
         have n2_ := Aside0.mk (below_step hb_ hb)
         clear HO379
         clear BK373
         clear HB
         have HO379 := n0_
         have BK373 := n1_
         have HB := n2_
         clear n0_ n1_ n2_
         (try clear hb)
         (try clear hb2)
         (try clear hk)
         (try clear hi)
         refine hK.out _ _ ⟨(blk_cell BK373.out 0).trans rfl, (blk_cell BK373.out 1).trans rfl, (blk_cell BK373.out 2).trans rfl, (blk_cell BK373.out 3).trans rfl, (blk_cell BK373.out 4).trans rfl, (blk_cell BK373.out 5).trans rfl, (blk_cell BK373.out 6).trans rfl⟩ (fun hHeld => ?_)
         clear hK K
         refine norm_ (a' := ?_) ?_ ?_
         rotate_left
         ·
          show Act.put _ (some 33) _ = _
          simp only [ap_, s0_, s1_, i64_w]
          rfl
         refine pu_ HT_ 4 29 (bl 9 31) ?_
         refine pu_ HT_ 5 34 (bl 9 63) ?_
         refine pu_ HT_ 6 35 (bl 9 127) ?_
         refine pu_ HT_ 7 7 (bl 9 255) ?_
         refine pu_ HT_ 8 8 (bl 9 511) ?_
         refine done_ (done_of HT_.out (by kernel_rfl)) ?_
         try go_wp2
         have n0_ := Aside0.mk (Kd.R_drew HO379.out)
         have n1_ := Aside0.mk (blk_drew BK373.out)
         have n2_ := Aside0.mk (below_drew1 HB.out)
         clear HO379
         clear BK373
         clear HB
         have HO379 := n0_
         have BK373 := n1_
         have HB := n2_
         clear n0_ n1_ n2_
         refine start_ (n := 9) (S := fun w' => w'.cell? ⟨gb373, 0, none⟩ = some (.int .i64 a1_0) ∧ w'.cell? ⟨gb373, 1, none⟩ = some (.int .i64 a1_1) ∧ w'.cell? ⟨gb373, 2, none⟩ = some (.string a1_2) ∧ w'.cell? ⟨gb373, 3, none⟩ = some (.string a1_3) ∧ w'.cell? ⟨gb373, 4, none⟩ = some (.int .i64 a1_4) ∧ w'.cell? ⟨gb373, 5, none⟩ = some (.int .i64 a1_5) ∧ w'.cell? ⟨gb373, 6, none⟩ = some (.int .i64 a1_6)) (ds := []) #[false, false, false, false, false, false, false, false, false] (by kernel_rfl) rfl rfl ⟨(blk_cell BK373.out 0).trans rfl, (blk_cell BK373.out 1).trans rfl, (blk_cell BK373.out 2).trans rfl, (blk_cell BK373.out 3).trans rfl, (blk_cell BK373.out 4).trans rfl, (blk_cell BK373.out 5).trans rfl, (blk_cell BK373.out 6).trans rfl⟩ (fun hHeld => ?_); refine with_tabW hopmeshlaw14_CompressBack.tab6 hopmeshlaw14_CompressBack.bits6 (fun HT_ HW_ => ?_)
         generalize w152.drew = w153 at HO379 BK373 HB hHeld ⊢
         refine pu_ HT_ 0 37 (bl 9 1) ?_
         refine tk_ HT_ HW_ hHeld 2 39 (bl 9 5) ?_
         refine one_ (i := 1) (N := some 38) (bl 9 7) rfl rfl (one_of HT_.out (by kernel_rfl)) (by decide) (fun K hK => ?_)
         refine goes_ Try.func14 (by kernel_rfl) rfl #[.slice A0 l0.length c0] (by rfl) rfl rfl am_ ?_
         with_reducible refine (api_Context.calls _ _ l0 t382 _ ?side1 ?side2 A23.out).mono ?_
         (case side1 => repeat (first | exact (Kd.C_below HR0.out HB.out) | (with_reducible refine Kd.C_alloc ?_ _) | (with_reducible refine Kd.C_drewN ?_ _) | (with_reducible refine Kd.C_drew ?_)))
         (case side2 => exact HC0.out)
         rintro e w154 ⟨v383, rfl, ho0, hb⟩
         refine ⟨_, rfl, ?_⟩
         have n0_ := Aside0.mk (Kd.R_elder' (kr_ HO379) (Kd.R_base ho0) hb)
         have n1_ := Aside0.mk (Kd.R_lower (Kd.R_new' ho0 (Kd.R_lt (kr_ HO379))) (below_size hb_))
         have n2_ := bk_ BK373 hb
         have n3_ := Aside0.mk (below_step hb_ hb)
         clear HO379
         clear BK373
         clear HB
         have HO379 := n0_
         have HO384 := n1_
         have BK373 := n2_
         have HB := n3_
         clear n0_ n1_ n2_ n3_
         (try clear hb)
         (try clear hb2)
         (try clear hk)
         (try clear hi)
         (try clear ho0)
         obtain ⟨Ao155, co155, eo155⟩ := Kd.R_slice HO384.out
         (first | subst eo155 | (injection eo155 with f1_ f2_ f3_; have f4_ := f1_.symm; have f5_ := f3_.symm; clear f1_ f2_ f3_; subst f4_; subst f5_))
         refine hK.out _ _ ⟨(blk_cell BK373.out 0).trans rfl, (blk_cell BK373.out 1).trans rfl, (blk_cell BK373.out 2).trans rfl, (blk_cell BK373.out 3).trans rfl, (blk_cell BK373.out 4).trans rfl, (blk_cell BK373.out 5).trans rfl, (blk_cell BK373.out 6).trans rfl⟩ (fun hHeld => ?_)
         clear hK K
         refine norm_ (a' := ?_) ?_ ?_
         rotate_left
         ·
          show Act.put _ (some 38) _ = _
          simp only [ap_, s0_, s1_, i64_w]
          rfl
         refine one_ (i := 3) (N := some 40) (bl 9 15) rfl rfl (one_of HT_.out (by kernel_rfl)) (by decide) (fun K hK => ?_)
         refine goes_ Try.func13 (by kernel_rfl) rfl #[.slice Ao155 t382.length co155, .agg #[.int .i64 a1_0, .int .i64 a1_1, .string a1_2, .string a1_3, .int .i64 a1_4, .int .i64 a1_5, .int .i64 a1_6]] (by rfl) rfl rfl am_ ?_
         with_reducible refine (compress_Bits.calls _ _ t382 a1_0 a1_1 a1_2 a1_3 a1_4 a1_5 a1_6 t385 t386 _ ?side1 ?side2 A24.out).mono ?_
         (case side1 => repeat (first | exact (Kd.R_reads' HO384.out).2.2 | (with_reducible refine Kd.C_alloc ?_ _) | (with_reducible refine Kd.C_drewN ?_ _) | (with_reducible refine Kd.C_drew ?_)))
         (case side2 => exact (Kd.R_reads' HO384.out).2.1)
         rintro e w156 ⟨rfl, hb⟩
         refine ⟨_, rfl, ?_⟩
         have n0_ := Aside0.mk (Kd.R_below (kr_ HO379) hb)
         have n1_ := Aside0.mk (Kd.R_below (kr_ HO384) hb)
         have n2_ := bk_ BK373 hb
         have n3_ := Aside0.mk (below_step hb_ hb)
         clear HO379
         clear HO384
         clear BK373
         clear HB
         have HO379 := n0_
         have HO384 := n1_
         have BK373 := n2_
         have HB := n3_
         clear n0_ n1_ n2_ n3_
         (try clear hb)
         (try clear hb2)
         (try clear hk)
         (try clear hi)
         refine hK.out _ _ ⟨(blk_cell BK373.out 0).trans rfl, (blk_cell BK373.out 1).trans rfl, (blk_cell BK373.out 2).trans rfl, (blk_cell BK373.out 3).trans rfl, (blk_cell BK373.out 4).trans rfl, (blk_cell BK373.out 5).trans rfl, (blk_cell BK373.out 6).trans rfl⟩ (fun hHeld => ?_)
         clear hK K
         refine norm_ (a' := ?_) ?_ ?_
         rotate_left
         ·
          show Act.put _ (some 40) _ = _
          simp only [ap_, s0_, s1_, i64_w]
          rfl
         refine pu_ HT_ 4 36 (bl 9 31) ?_
         refine pu_ HT_ 5 41 (bl 9 63) ?_
         refine pu_ HT_ 6 42 (bl 9 127) ?_
         refine pu_ HT_ 7 9 (bl 9 255) ?_
         refine pu_ HT_ 8 10 (bl 9 511) ?_
         refine done_ (done_of HT_.out (by kernel_rfl)) ?_
         try go_wp2
         go_ret
         exact ⟨er_, hb_⟩
       ·
        rw [if_neg c139] at H
        have c139b0 : (t380.toList == ([] : List UInt8)) = false := beq_eq_false_iff_ne.mpr c139
        have c139b1 : (t380.toList != ([] : List UInt8)) = true := bne_iff_ne.mpr c139
        obtain rfl := Option.some.inj H
        try go_wp2
        have n0_ := Aside0.mk (blk_drew BK373.out)
        have n1_ := Aside0.mk (below_drew1 HB.out)
        clear BK373
        clear HB
        have BK373 := n0_
        have HB := n1_
        clear n0_ n1_
        refine start_ (n := 9) (S := fun w' => w'.cell? ⟨gb373, 0, none⟩ = some (.int .i64 a1_0) ∧ w'.cell? ⟨gb373, 1, none⟩ = some (.int .i64 a1_1) ∧ w'.cell? ⟨gb373, 2, none⟩ = some (.string a1_2) ∧ w'.cell? ⟨gb373, 3, none⟩ = some (.string a1_3) ∧ w'.cell? ⟨gb373, 4, none⟩ = some (.int .i64 a1_4) ∧ w'.cell? ⟨gb373, 5, none⟩ = some (.int .i64 a1_5) ∧ w'.cell? ⟨gb373, 6, none⟩ = some (.int .i64 a1_6)) (ds := []) #[false, false, false, false, false, false, false, false, false] (by kernel_rfl) rfl rfl ⟨(blk_cell BK373.out 0).trans rfl, (blk_cell BK373.out 1).trans rfl, (blk_cell BK373.out 2).trans rfl, (blk_cell BK373.out 3).trans rfl, (blk_cell BK373.out 4).trans rfl, (blk_cell BK373.out 5).trans rfl, (blk_cell BK373.out 6).trans rfl⟩ (fun hHeld => ?_); refine with_tabW hopmeshlaw14_CompressBack.tab5 hopmeshlaw14_CompressBack.bits5 (fun HT_ HW_ => ?_)
        generalize wc.drew = w157 at BK373 HB hHeld ⊢
        refine pu_ HT_ 0 30 (bl 9 1) ?_
        refine tk_ HT_ HW_ hHeld 2 32 (bl 9 5) ?_
        refine one_ (i := 1) (N := some 31) (bl 9 7) rfl rfl (one_of HT_.out (by kernel_rfl)) (by decide) (fun K hK => ?_)
        refine goes_ Try.func14 (by kernel_rfl) rfl #[.slice A0 l0.length c0] (by rfl) rfl rfl am_ ?_
        with_reducible refine (api_Context.calls _ _ l0 t377 _ ?side1 ?side2 A21.out).mono ?_
        (case side1 => repeat (first | exact (Kd.C_below HR0.out HB.out) | (with_reducible refine Kd.C_alloc ?_ _) | (with_reducible refine Kd.C_drewN ?_ _) | (with_reducible refine Kd.C_drew ?_)))
        (case side2 => exact HC0.out)
        rintro e w158 ⟨v378, rfl, ho0, hb⟩
        refine ⟨_, rfl, ?_⟩
        have n0_ := Aside0.mk (Kd.R_lower ho0 (below_size hb_))
        have n1_ := bk_ BK373 hb
        have n2_ := Aside0.mk (below_step hb_ hb)
        clear BK373
        clear HB
        have HO379 := n0_
        have BK373 := n1_
        have HB := n2_
        clear n0_ n1_ n2_
        (try clear hb)
        (try clear hb2)
        (try clear hk)
        (try clear hi)
        (try clear ho0)
        obtain ⟨Ao159, co159, eo159⟩ := Kd.R_slice HO379.out
        (first | subst eo159 | (injection eo159 with f1_ f2_ f3_; have f4_ := f1_.symm; have f5_ := f3_.symm; clear f1_ f2_ f3_; subst f4_; subst f5_))
        refine hK.out _ _ ⟨(blk_cell BK373.out 0).trans rfl, (blk_cell BK373.out 1).trans rfl, (blk_cell BK373.out 2).trans rfl, (blk_cell BK373.out 3).trans rfl, (blk_cell BK373.out 4).trans rfl, (blk_cell BK373.out 5).trans rfl, (blk_cell BK373.out 6).trans rfl⟩ (fun hHeld => ?_)
        clear hK K
        refine norm_ (a' := ?_) ?_ ?_
        rotate_left
        ·
         show Act.put _ (some 31) _ = _
         simp only [ap_, s0_, s1_, i64_w]
         rfl
        refine one_ (i := 3) (N := some 33) (bl 9 15) rfl rfl (one_of HT_.out (by kernel_rfl)) (by decide) (fun K hK => ?_)
        refine goes_ Try.func17 (by kernel_rfl) rfl #[.slice Ao159 t377.length co159, .agg #[.int .i64 a1_0, .int .i64 a1_1, .string a1_2, .string a1_3, .int .i64 a1_4, .int .i64 a1_5, .int .i64 a1_6]] (by rfl) rfl rfl am_ ?_
        with_reducible refine (compress_Compress.calls _ _ t377 a1_0 a1_1 a1_2 a1_3 a1_4 a1_5 a1_6 t380 t381 _ ?side1 ?side2 A22.out).mono ?_
        (case side1 => repeat (first | exact (Kd.R_reads' HO379.out).2.2 | (with_reducible refine Kd.C_alloc ?_ _) | (with_reducible refine Kd.C_drewN ?_ _) | (with_reducible refine Kd.C_drew ?_)))
        (case side2 => exact (Kd.R_reads' HO379.out).2.1)
        rintro e w160 ⟨rfl, hb⟩
        refine ⟨_, rfl, ?_⟩
        have n0_ := Aside0.mk (Kd.R_below (kr_ HO379) hb)
        have n1_ := bk_ BK373 hb
        have n2_ := Aside0.mk (below_step hb_ hb)
        clear HO379
        clear BK373
        clear HB
        have HO379 := n0_
        have BK373 := n1_
        have HB := n2_
        clear n0_ n1_ n2_
        (try clear hb)
        (try clear hb2)
        (try clear hk)
        (try clear hi)
        refine hK.out _ _ ⟨(blk_cell BK373.out 0).trans rfl, (blk_cell BK373.out 1).trans rfl, (blk_cell BK373.out 2).trans rfl, (blk_cell BK373.out 3).trans rfl, (blk_cell BK373.out 4).trans rfl, (blk_cell BK373.out 5).trans rfl, (blk_cell BK373.out 6).trans rfl⟩ (fun hHeld => ?_)
        clear hK K
        refine norm_ (a' := ?_) ?_ ?_
        rotate_left
        ·
         show Act.put _ (some 33) _ = _
         simp only [ap_, s0_, s1_, i64_w]
         rfl
        refine pu_ HT_ 4 29 (bl 9 31) ?_
        refine pu_ HT_ 5 34 (bl 9 63) ?_
        refine pu_ HT_ 6 35 (bl 9 127) ?_
        refine pu_ HT_ 7 7 (bl 9 255) ?_
        refine pu_ HT_ 8 8 (bl 9 511) ?_
        refine done_ (done_of HT_.out (by kernel_rfl)) ?_
        try go_wp2
        have n0_ := Aside0.mk (Kd.R_drew HO379.out)
        have n1_ := Aside0.mk (blk_drew BK373.out)
        have n2_ := Aside0.mk (below_drew1 HB.out)
        clear HO379
        clear BK373
        clear HB
        have HO379 := n0_
        have BK373 := n1_
        have HB := n2_
        clear n0_ n1_ n2_
        refine start_ (n := 9) (S := fun w' => w'.cell? ⟨gb373, 0, none⟩ = some (.int .i64 a1_0) ∧ w'.cell? ⟨gb373, 1, none⟩ = some (.int .i64 a1_1) ∧ w'.cell? ⟨gb373, 2, none⟩ = some (.string a1_2) ∧ w'.cell? ⟨gb373, 3, none⟩ = some (.string a1_3) ∧ w'.cell? ⟨gb373, 4, none⟩ = some (.int .i64 a1_4) ∧ w'.cell? ⟨gb373, 5, none⟩ = some (.int .i64 a1_5) ∧ w'.cell? ⟨gb373, 6, none⟩ = some (.int .i64 a1_6)) (ds := []) #[false, false, false, false, false, false, false, false, false] (by kernel_rfl) rfl rfl ⟨(blk_cell BK373.out 0).trans rfl, (blk_cell BK373.out 1).trans rfl, (blk_cell BK373.out 2).trans rfl, (blk_cell BK373.out 3).trans rfl, (blk_cell BK373.out 4).trans rfl, (blk_cell BK373.out 5).trans rfl, (blk_cell BK373.out 6).trans rfl⟩ (fun hHeld => ?_); refine with_tabW hopmeshlaw14_CompressBack.tab6 hopmeshlaw14_CompressBack.bits6 (fun HT_ HW_ => ?_)
        generalize w160.drew = w161 at HO379 BK373 HB hHeld ⊢
        refine pu_ HT_ 0 37 (bl 9 1) ?_
        refine tk_ HT_ HW_ hHeld 2 39 (bl 9 5) ?_
        refine one_ (i := 1) (N := some 38) (bl 9 7) rfl rfl (one_of HT_.out (by kernel_rfl)) (by decide) (fun K hK => ?_)
        refine goes_ Try.func14 (by kernel_rfl) rfl #[.slice A0 l0.length c0] (by rfl) rfl rfl am_ ?_
        with_reducible refine (api_Context.calls _ _ l0 t382 _ ?side1 ?side2 A23.out).mono ?_
        (case side1 => repeat (first | exact (Kd.C_below HR0.out HB.out) | (with_reducible refine Kd.C_alloc ?_ _) | (with_reducible refine Kd.C_drewN ?_ _) | (with_reducible refine Kd.C_drew ?_)))
        (case side2 => exact HC0.out)
        rintro e w162 ⟨v383, rfl, ho0, hb⟩
        refine ⟨_, rfl, ?_⟩
        have n0_ := Aside0.mk (Kd.R_elder' (kr_ HO379) (Kd.R_base ho0) hb)
        have n1_ := Aside0.mk (Kd.R_lower (Kd.R_new' ho0 (Kd.R_lt (kr_ HO379))) (below_size hb_))
        have n2_ := bk_ BK373 hb
        have n3_ := Aside0.mk (below_step hb_ hb)
        clear HO379
        clear BK373
        clear HB
        have HO379 := n0_
        have HO384 := n1_
        have BK373 := n2_
        have HB := n3_
        clear n0_ n1_ n2_ n3_
        (try clear hb)
        (try clear hb2)
        (try clear hk)
        (try clear hi)
        (try clear ho0)
        obtain ⟨Ao163, co163, eo163⟩ := Kd.R_slice HO384.out
        (first | subst eo163 | (injection eo163 with f1_ f2_ f3_; have f4_ := f1_.symm; have f5_ := f3_.symm; clear f1_ f2_ f3_; subst f4_; subst f5_))
        refine hK.out _ _ ⟨(blk_cell BK373.out 0).trans rfl, (blk_cell BK373.out 1).trans rfl, (blk_cell BK373.out 2).trans rfl, (blk_cell BK373.out 3).trans rfl, (blk_cell BK373.out 4).trans rfl, (blk_cell BK373.out 5).trans rfl, (blk_cell BK373.out 6).trans rfl⟩ (fun hHeld => ?_)
        clear hK K
        refine norm_ (a' := ?_) ?_ ?_
        rotate_left
        ·
         show Act.put _ (some 38) _ = _
         simp only [ap_, s0_, s1_, i64_w]
         rfl
        refine one_ (i := 3) (N := some 40) (bl 9 15) rfl rfl (one_of HT_.out (by kernel_rfl)) (by decide) (fun K hK => ?_)
        refine goes_ Try.func13 (by kernel_rfl) rfl #[.slice Ao163 t382.length co163, .agg #[.int .i64 a1_0, .int .i64 a1_1, .string a1_2, .string a1_3, .int .i64 a1_4, .int .i64 a1_5, .int .i64 a1_6]] (by rfl) rfl rfl am_ ?_
        with_reducible refine (compress_Bits.calls _ _ t382 a1_0 a1_1 a1_2 a1_3 a1_4 a1_5 a1_6 t385 t386 _ ?side1 ?side2 A24.out).mono ?_
        (case side1 => repeat (first | exact (Kd.R_reads' HO384.out).2.2 | (with_reducible refine Kd.C_alloc ?_ _) | (with_reducible refine Kd.C_drewN ?_ _) | (with_reducible refine Kd.C_drew ?_)))
        (case side2 => exact (Kd.R_reads' HO384.out).2.1)
        rintro e w164 ⟨rfl, hb⟩
        refine ⟨_, rfl, ?_⟩
        have n0_ := Aside0.mk (Kd.R_below (kr_ HO379) hb)
        have n1_ := Aside0.mk (Kd.R_below (kr_ HO384) hb)
        have n2_ := bk_ BK373 hb
        have n3_ := Aside0.mk (below_step hb_ hb)
        clear HO379
        clear HO384
        clear BK373
        clear HB
        have HO379 := n0_
        have HO384 := n1_
        have BK373 := n2_
        have HB := n3_
        clear n0_ n1_ n2_ n3_
        (try clear hb)
        (try clear hb2)
        (try clear hk)
        (try clear hi)
        refine hK.out _ _ ⟨(blk_cell BK373.out 0).trans rfl, (blk_cell BK373.out 1).trans rfl, (blk_cell BK373.out 2).trans rfl, (blk_cell BK373.out 3).trans rfl, (blk_cell BK373.out 4).trans rfl, (blk_cell BK373.out 5).trans rfl, (blk_cell BK373.out 6).trans rfl⟩ (fun hHeld => ?_)
        clear hK K
        refine norm_ (a' := ?_) ?_ ?_
        rotate_left
        ·
         show Act.put _ (some 40) _ = _
         simp only [ap_, s0_, s1_, i64_w]
         rfl
        refine pu_ HT_ 4 36 (bl 9 31) ?_
        refine pu_ HT_ 5 41 (bl 9 63) ?_
        refine pu_ HT_ 6 42 (bl 9 127) ?_
        refine pu_ HT_ 7 9 (bl 9 255) ?_
        refine pu_ HT_ 8 10 (bl 9 511) ?_
        refine done_ (done_of HT_.out (by kernel_rfl)) ?_
        try go_wp2
        go_ret
        exact ⟨er_, hb_⟩
      ·
       rw [if_neg c138] at H
       have c138b0 : (t381 == 1) = false := beq_eq_false_iff_ne.mpr c138
       have c138b1 : (t381 != 1) = true := bne_iff_ne.mpr c138
       obtain rfl := Option.some.inj H
       try go_wp2
       have n0_ := Aside0.mk (blk_drew BK373.out)
       have n1_ := Aside0.mk (below_drew1 HB.out)
       clear BK373
       clear HB
       have BK373 := n0_
       have HB := n1_
       clear n0_ n1_
       refine start_ (n := 9) (S := fun w' => w'.cell? ⟨gb373, 0, none⟩ = some (.int .i64 a1_0) ∧ w'.cell? ⟨gb373, 1, none⟩ = some (.int .i64 a1_1) ∧ w'.cell? ⟨gb373, 2, none⟩ = some (.string a1_2) ∧ w'.cell? ⟨gb373, 3, none⟩ = some (.string a1_3) ∧ w'.cell? ⟨gb373, 4, none⟩ = some (.int .i64 a1_4) ∧ w'.cell? ⟨gb373, 5, none⟩ = some (.int .i64 a1_5) ∧ w'.cell? ⟨gb373, 6, none⟩ = some (.int .i64 a1_6)) (ds := []) #[false, false, false, false, false, false, false, false, false] (by kernel_rfl) rfl rfl ⟨(blk_cell BK373.out 0).trans rfl, (blk_cell BK373.out 1).trans rfl, (blk_cell BK373.out 2).trans rfl, (blk_cell BK373.out 3).trans rfl, (blk_cell BK373.out 4).trans rfl, (blk_cell BK373.out 5).trans rfl, (blk_cell BK373.out 6).trans rfl⟩ (fun hHeld => ?_); refine with_tabW hopmeshlaw14_CompressBack.tab5 hopmeshlaw14_CompressBack.bits5 (fun HT_ HW_ => ?_)
       generalize wc.drew = w165 at BK373 HB hHeld ⊢
       refine pu_ HT_ 0 30 (bl 9 1) ?_
       refine tk_ HT_ HW_ hHeld 2 32 (bl 9 5) ?_
       refine one_ (i := 1) (N := some 31) (bl 9 7) rfl rfl (one_of HT_.out (by kernel_rfl)) (by decide) (fun K hK => ?_)
       refine goes_ Try.func14 (by kernel_rfl) rfl #[.slice A0 l0.length c0] (by rfl) rfl rfl am_ ?_
       with_reducible refine (api_Context.calls _ _ l0 t377 _ ?side1 ?side2 A21.out).mono ?_
       (case side1 => repeat (first | exact (Kd.C_below HR0.out HB.out) | (with_reducible refine Kd.C_alloc ?_ _) | (with_reducible refine Kd.C_drewN ?_ _) | (with_reducible refine Kd.C_drew ?_)))
       (case side2 => exact HC0.out)
       rintro e w166 ⟨v378, rfl, ho0, hb⟩
       refine ⟨_, rfl, ?_⟩
       have n0_ := Aside0.mk (Kd.R_lower ho0 (below_size hb_))
       have n1_ := bk_ BK373 hb
       have n2_ := Aside0.mk (below_step hb_ hb)
       clear BK373
       clear HB
       have HO379 := n0_
       have BK373 := n1_
       have HB := n2_
       clear n0_ n1_ n2_
       (try clear hb)
       (try clear hb2)
       (try clear hk)
       (try clear hi)
       (try clear ho0)
       obtain ⟨Ao167, co167, eo167⟩ := Kd.R_slice HO379.out
       (first | subst eo167 | (injection eo167 with f1_ f2_ f3_; have f4_ := f1_.symm; have f5_ := f3_.symm; clear f1_ f2_ f3_; subst f4_; subst f5_))
       refine hK.out _ _ ⟨(blk_cell BK373.out 0).trans rfl, (blk_cell BK373.out 1).trans rfl, (blk_cell BK373.out 2).trans rfl, (blk_cell BK373.out 3).trans rfl, (blk_cell BK373.out 4).trans rfl, (blk_cell BK373.out 5).trans rfl, (blk_cell BK373.out 6).trans rfl⟩ (fun hHeld => ?_)
       clear hK K
       refine norm_ (a' := ?_) ?_ ?_
       rotate_left
       ·
        show Act.put _ (some 31) _ = _
        simp only [ap_, s0_, s1_, i64_w]
        rfl
       refine one_ (i := 3) (N := some 33) (bl 9 15) rfl rfl (one_of HT_.out (by kernel_rfl)) (by decide) (fun K hK => ?_)
       refine goes_ Try.func17 (by kernel_rfl) rfl #[.slice Ao167 t377.length co167, .agg #[.int .i64 a1_0, .int .i64 a1_1, .string a1_2, .string a1_3, .int .i64 a1_4, .int .i64 a1_5, .int .i64 a1_6]] (by rfl) rfl rfl am_ ?_
       with_reducible refine (compress_Compress.calls _ _ t377 a1_0 a1_1 a1_2 a1_3 a1_4 a1_5 a1_6 t380 t381 _ ?side1 ?side2 A22.out).mono ?_
       (case side1 => repeat (first | exact (Kd.R_reads' HO379.out).2.2 | (with_reducible refine Kd.C_alloc ?_ _) | (with_reducible refine Kd.C_drewN ?_ _) | (with_reducible refine Kd.C_drew ?_)))
       (case side2 => exact (Kd.R_reads' HO379.out).2.1)
       rintro e w168 ⟨rfl, hb⟩
       refine ⟨_, rfl, ?_⟩
       have n0_ := Aside0.mk (Kd.R_below (kr_ HO379) hb)
       have n1_ := bk_ BK373 hb
       have n2_ := Aside0.mk (below_step hb_ hb)
       clear HO379
       clear BK373
       clear HB
       have HO379 := n0_
       have BK373 := n1_
       have HB := n2_
       clear n0_ n1_ n2_
       (try clear hb)
       (try clear hb2)
       (try clear hk)
       (try clear hi)
       refine hK.out _ _ ⟨(blk_cell BK373.out 0).trans rfl, (blk_cell BK373.out 1).trans rfl, (blk_cell BK373.out 2).trans rfl, (blk_cell BK373.out 3).trans rfl, (blk_cell BK373.out 4).trans rfl, (blk_cell BK373.out 5).trans rfl, (blk_cell BK373.out 6).trans rfl⟩ (fun hHeld => ?_)
       clear hK K
       refine norm_ (a' := ?_) ?_ ?_
       rotate_left
       ·
        show Act.put _ (some 33) _ = _
        simp only [ap_, s0_, s1_, i64_w]
        rfl
       refine pu_ HT_ 4 29 (bl 9 31) ?_
       refine pu_ HT_ 5 34 (bl 9 63) ?_
       refine pu_ HT_ 6 35 (bl 9 127) ?_
       refine pu_ HT_ 7 7 (bl 9 255) ?_
       refine pu_ HT_ 8 8 (bl 9 511) ?_
       refine done_ (done_of HT_.out (by kernel_rfl)) ?_
       try go_wp2
       have n0_ := Aside0.mk (Kd.R_drew HO379.out)
       have n1_ := Aside0.mk (blk_drew BK373.out)
       have n2_ := Aside0.mk (below_drew1 HB.out)
       clear HO379
       clear BK373
       clear HB
       have HO379 := n0_
       have BK373 := n1_
       have HB := n2_
       clear n0_ n1_ n2_
       refine start_ (n := 9) (S := fun w' => w'.cell? ⟨gb373, 0, none⟩ = some (.int .i64 a1_0) ∧ w'.cell? ⟨gb373, 1, none⟩ = some (.int .i64 a1_1) ∧ w'.cell? ⟨gb373, 2, none⟩ = some (.string a1_2) ∧ w'.cell? ⟨gb373, 3, none⟩ = some (.string a1_3) ∧ w'.cell? ⟨gb373, 4, none⟩ = some (.int .i64 a1_4) ∧ w'.cell? ⟨gb373, 5, none⟩ = some (.int .i64 a1_5) ∧ w'.cell? ⟨gb373, 6, none⟩ = some (.int .i64 a1_6)) (ds := []) #[false, false, false, false, false, false, false, false, false] (by kernel_rfl) rfl rfl ⟨(blk_cell BK373.out 0).trans rfl, (blk_cell BK373.out 1).trans rfl, (blk_cell BK373.out 2).trans rfl, (blk_cell BK373.out 3).trans rfl, (blk_cell BK373.out 4).trans rfl, (blk_cell BK373.out 5).trans rfl, (blk_cell BK373.out 6).trans rfl⟩ (fun hHeld => ?_); refine with_tabW hopmeshlaw14_CompressBack.tab6 hopmeshlaw14_CompressBack.bits6 (fun HT_ HW_ => ?_)
       generalize w168.drew = w169 at HO379 BK373 HB hHeld ⊢
       refine pu_ HT_ 0 37 (bl 9 1) ?_
       refine tk_ HT_ HW_ hHeld 2 39 (bl 9 5) ?_
       refine one_ (i := 1) (N := some 38) (bl 9 7) rfl rfl (one_of HT_.out (by kernel_rfl)) (by decide) (fun K hK => ?_)
       refine goes_ Try.func14 (by kernel_rfl) rfl #[.slice A0 l0.length c0] (by rfl) rfl rfl am_ ?_
       with_reducible refine (api_Context.calls _ _ l0 t382 _ ?side1 ?side2 A23.out).mono ?_
       (case side1 => repeat (first | exact (Kd.C_below HR0.out HB.out) | (with_reducible refine Kd.C_alloc ?_ _) | (with_reducible refine Kd.C_drewN ?_ _) | (with_reducible refine Kd.C_drew ?_)))
       (case side2 => exact HC0.out)
       rintro e w170 ⟨v383, rfl, ho0, hb⟩
       refine ⟨_, rfl, ?_⟩
       have n0_ := Aside0.mk (Kd.R_elder' (kr_ HO379) (Kd.R_base ho0) hb)
       have n1_ := Aside0.mk (Kd.R_lower (Kd.R_new' ho0 (Kd.R_lt (kr_ HO379))) (below_size hb_))
       have n2_ := bk_ BK373 hb
       have n3_ := Aside0.mk (below_step hb_ hb)
       clear HO379
       clear BK373
       clear HB
       have HO379 := n0_
       have HO384 := n1_
       have BK373 := n2_
       have HB := n3_
       clear n0_ n1_ n2_ n3_
       (try clear hb)
       (try clear hb2)
       (try clear hk)
       (try clear hi)
       (try clear ho0)
       obtain ⟨Ao171, co171, eo171⟩ := Kd.R_slice HO384.out
       (first | subst eo171 | (injection eo171 with f1_ f2_ f3_; have f4_ := f1_.symm; have f5_ := f3_.symm; clear f1_ f2_ f3_; subst f4_; subst f5_))
       refine hK.out _ _ ⟨(blk_cell BK373.out 0).trans rfl, (blk_cell BK373.out 1).trans rfl, (blk_cell BK373.out 2).trans rfl, (blk_cell BK373.out 3).trans rfl, (blk_cell BK373.out 4).trans rfl, (blk_cell BK373.out 5).trans rfl, (blk_cell BK373.out 6).trans rfl⟩ (fun hHeld => ?_)
       clear hK K
       refine norm_ (a' := ?_) ?_ ?_
       rotate_left
       ·
        show Act.put _ (some 38) _ = _
        simp only [ap_, s0_, s1_, i64_w]
        rfl
       refine one_ (i := 3) (N := some 40) (bl 9 15) rfl rfl (one_of HT_.out (by kernel_rfl)) (by decide) (fun K hK => ?_)
       refine goes_ Try.func13 (by kernel_rfl) rfl #[.slice Ao171 t382.length co171, .agg #[.int .i64 a1_0, .int .i64 a1_1, .string a1_2, .string a1_3, .int .i64 a1_4, .int .i64 a1_5, .int .i64 a1_6]] (by rfl) rfl rfl am_ ?_
       with_reducible refine (compress_Bits.calls _ _ t382 a1_0 a1_1 a1_2 a1_3 a1_4 a1_5 a1_6 t385 t386 _ ?side1 ?side2 A24.out).mono ?_
       (case side1 => repeat (first | exact (Kd.R_reads' HO384.out).2.2 | (with_reducible refine Kd.C_alloc ?_ _) | (with_reducible refine Kd.C_drewN ?_ _) | (with_reducible refine Kd.C_drew ?_)))
       (case side2 => exact (Kd.R_reads' HO384.out).2.1)
       rintro e w172 ⟨rfl, hb⟩
       refine ⟨_, rfl, ?_⟩
       have n0_ := Aside0.mk (Kd.R_below (kr_ HO379) hb)
       have n1_ := Aside0.mk (Kd.R_below (kr_ HO384) hb)
       have n2_ := bk_ BK373 hb
       have n3_ := Aside0.mk (below_step hb_ hb)
       clear HO379
       clear HO384
       clear BK373
       clear HB
       have HO379 := n0_
       have HO384 := n1_
       have BK373 := n2_
       have HB := n3_
       clear n0_ n1_ n2_ n3_
       (try clear hb)
       (try clear hb2)
       (try clear hk)
       (try clear hi)
       refine hK.out _ _ ⟨(blk_cell BK373.out 0).trans rfl, (blk_cell BK373.out 1).trans rfl, (blk_cell BK373.out 2).trans rfl, (blk_cell BK373.out 3).trans rfl, (blk_cell BK373.out 4).trans rfl, (blk_cell BK373.out 5).trans rfl, (blk_cell BK373.out 6).trans rfl⟩ (fun hHeld => ?_)
       clear hK K
       refine norm_ (a' := ?_) ?_ ?_
       rotate_left
       ·
        show Act.put _ (some 40) _ = _
        simp only [ap_, s0_, s1_, i64_w]
        rfl
       refine pu_ HT_ 4 36 (bl 9 31) ?_
       refine pu_ HT_ 5 41 (bl 9 63) ?_
       refine pu_ HT_ 6 42 (bl 9 127) ?_
       refine pu_ HT_ 7 9 (bl 9 255) ?_
       refine pu_ HT_ 8 10 (bl 9 511) ?_
       refine done_ (done_of HT_.out (by kernel_rfl)) ?_
       try go_wp2
       go_ret
       exact ⟨er_, hb_⟩
 ·
  replace c5 := Bool.eq_false_iff.mpr c5
  subst c5
  have H1 : (some false) = some r := by rw [if_neg (show ¬ (false = true) by decide)] at H; exact H
  clear H
  have H := H1
  clear H1
  obtain rfl := Option.some.inj H
  go_enter Try.func7, Try.ntmps7
  go_wp2_with (first | ((with_reducible refine gate_dst (N := 4) rfl ?_); refine bx_ 4 #[.int .i64 a1_0, .int .i64 a1_1, .string a1_2, .string a1_3, .int .i64 a1_4, .int .i64 a1_5, .int .i64 a1_6] 24 ?_; intro gb373 hg w173 hbox hb; have n0_ := Aside0.mk (below_step hb_ hb); have n1_ := Aside0.mk (hbox); have n2_ := Aside0.mk ((by rw [hg]; exact (below_size hb_) : w.heap.size ≤ gb373)); have n3_ := Aside0.mk ((by rw [hg]; exact (below_size hb_) : w.heap.size ≤ gb373)); clear HB; have HB := n0_; have BK373 := n1_; have GW373 := n2_; have GE373 := n3_; clear n0_ n1_ n2_ n3_; clear hb hbox hg) | ((with_reducible refine gate_callee (f := 10) rfl ?_); refine goesL_ (some 14) rfl rfl Try.func10 (by kernel_rfl) rfl #[] rfl am_ ?_; (with_reducible refine (hopmeshlaw14_awake.calls k  false _ A4.out).mono ?_); rintro e w174 ⟨rfl, hb⟩; refine ⟨_, rfl, ?_⟩; have n0_ := bk_ BK373 hb; have n1_ := Aside0.mk (below_step hb_ hb); clear BK373; clear HB; have BK373 := n0_; have HB := n1_; clear n0_ n1_; (try clear hb); (try clear hb2); (try clear hk); (try clear hi)))
  go_ret
  exact ⟨er_, hb_⟩

end Go.Proofs.Ytmbbijhppgkdfaa.P14
