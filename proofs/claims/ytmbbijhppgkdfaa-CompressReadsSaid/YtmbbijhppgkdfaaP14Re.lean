-- Written by a program of this session (wip/tools) over the kit's print; Lean checks it.
import Derived.Test.YtmbbijhppgkdfaaP140
import Derived.Test.YtmbbijhppgkdfaaP14Rc
import Derived.Test.YtmbbijhppgkdfaaP14Rf
import Derived.Test.YtmbbijhppgkdfaaP14Q0
import Derived.Test.YtmbbijhppgkdfaaP14Qh
import Derived.Test.YtmbbijhppgkdfaaGrcomp
namespace Go.Proofs.Ytmbbijhppgkdfaa.P14
open Go.RowKit Go.Proofs.YtmbbijhppgkdfaaW.PrintWords Go.Proofs.YtmbbijhppgkdfaaW.PrintLast Go.Proofs.YtmbbijhppgkdfaaW.PrintMore
attribute [local go_sem] max2_int min2_int max_two min_two max_three min_three max_four min_four   -- for this text's walks alone
set_option linter.unusedVariables false
set_option linter.unusedSimpArgs false

/-! ### hopmeshref14_Expand: function 25 -/
def hopmeshref14_Expand.j0 : Nat → List (S26) → ByteArray → Bool → Int → Int → ByteArray → ByteArray → Int → Int → Int → Option (Int × Int × ByteArray × ByteArray × Int × Int × Int × ByteArray × Int)
 | 0, _, _, _, _, _, _, _, _, _, _ => none
 | k + 1, x0, x1, x31, x341000, x341001, x341002, x341003, x341004, x341005, x341006 => if x31 = true then (some (0, 0, (⟨#[]⟩ : ByteArray), (⟨#[]⟩ : ByteArray), 0, 0, 0, (⟨#[]⟩ : ByteArray), 10)) else ((hopmeshref14_Compress.f x0 x341000 x341001 x341002 x341003 x341004 x341005 x341006).bind fun bt346 => (if (bt346.1.size : Int) > (x1.size : Int) then (some (0, 0, (⟨#[]⟩ : ByteArray), (⟨#[]⟩ : ByteArray), 0, 0, 0, (⟨#[]⟩ : ByteArray), 10)) else (if 0 ≤ (bt346.1.size : Int) then (if (bt346.1.size : Int) ≤ (x1.size : Int) then (if (x1.extract 0 ((bt346.1.size : Int) : Int).toNat).toList = bt346.1.toList then (some (x341000, x341001, x341002, x341003, x341004, x341005, x341006, x1.extract ((bt346.1.size : Int) : Int).toNat x1.size, 0)) else (some (0, 0, (⟨#[]⟩ : ByteArray), (⟨#[]⟩ : ByteArray), 0, 0, 0, (⟨#[]⟩ : ByteArray), 10))) else (none)) else (none))))
def hopmeshref14_Expand.f (k : Nat) (l0 : List (S26)) (a1 : ByteArray) : Option (Int × Int × ByteArray × ByteArray × Int × Int × Int × ByteArray × Int) := (hopmeshref14_Contexts.f k l0).bind fun t325 => (if t325 = 0 then (if (a1.size : Int) > 65536 then (some (0, 0, (⟨#[]⟩ : ByteArray), (⟨#[]⟩ : ByteArray), 0, 0, 0, (⟨#[]⟩ : ByteArray), 8)) else ((hopmeshref02_NewReader.f a1).bind fun bt326 => ((hopmeshref14_header.f k bt326.1 bt326.2.1 bt326.2.2 l0).bind fun bt330 => ((hopmeshref02_Reader_Err.f bt330.2.2.2.2.2.2.2.1 bt330.2.2.2.2.2.2.2.2.1 bt330.2.2.2.2.2.2.2.2.2).bind fun bt341 => (if bt341.1 = 0 then ((hopmeshref14_Check.f k bt330.1 bt330.2.1 bt330.2.2.1 bt330.2.2.2.1 bt330.2.2.2.2.1 bt330.2.2.2.2.2.1 bt330.2.2.2.2.2.2.1).bind fun t345 => (hopmeshref14_Expand.j0 k l0 a1 (t345 != 0) bt330.1 bt330.2.1 bt330.2.2.1 bt330.2.2.2.1 bt330.2.2.2.2.1 bt330.2.2.2.2.2.1 bt330.2.2.2.2.2.2.1)) else (hopmeshref14_Expand.j0 k l0 a1 true bt330.1 bt330.2.1 bt330.2.2.1 bt330.2.2.2.1 bt330.2.2.2.2.1 bt330.2.2.2.2.2.1 bt330.2.2.2.2.2.2.1)))))) else (some (0, 0, (⟨#[]⟩ : ByteArray), (⟨#[]⟩ : ByteArray), 0, 0, 0, (⟨#[]⟩ : ByteArray), 1)))
theorem hopmeshref14_Expand.mono_l : ∀ k, (∀ y0 y1 y2 y3 y4 y5 y6 y7 y8 y9, LeO (hopmeshref14_Expand.j0 k y0 y1 y2 y3 y4 y5 y6 y7 y8 y9) (hopmeshref14_Expand.j0 (k + 1) y0 y1 y2 y3 y4 y5 y6 y7 y8 y9))
 | 0 => fun _ _ _ _ _ _ _ _ _ _ r h => by simp [hopmeshref14_Expand.j0] at h
 | k + 1 => by
  have ih0 := hopmeshref14_Expand.mono_l k
  ·
   intro y0 y1 y2 y3 y4 y5 y6 y7 y8 y9
   unfold hopmeshref14_Expand.j0
   repeat' first
   | (with_reducible exact ih0 _ _ _ _ _ _ _ _ _ _)
   | (with_reducible exact hopmeshref14_Check.mono _ _ _ _ _ _ _ _)
   | (with_reducible exact hopmeshref14_Contexts.mono _ _)
   | (with_reducible exact hopmeshref14_header.mono _ _ _ _ _)
   | (with_reducible exact LeO.refl _)
   | (with_reducible exact LeO.none _)
   | (with_reducible refine LeO.ite ?_ ?_)
   | (with_reducible refine LeO.bind ?_ (fun _ => ?_))
   | exact ih0 _ _ _ _ _ _ _ _ _ _
   | exact hopmeshref14_Check.mono _ _ _ _ _ _ _ _
   | exact hopmeshref14_Contexts.mono _ _
   | exact hopmeshref14_header.mono _ _ _ _ _
   | exact LeO.none _
   | refine LeO.ite ?_ ?_
   | refine LeO.bind ?_ (fun _ => ?_)
theorem hopmeshref14_Expand.mono : ∀ a0 a1 k, LeO (hopmeshref14_Expand.f k a0 a1) (hopmeshref14_Expand.f (k + 1) a0 a1) := by
 intro a0 a1 k
 have ih0 := hopmeshref14_Expand.mono_l k
 unfold hopmeshref14_Expand.f
 repeat' first
   | (with_reducible exact ih0 _ _ _ _ _ _ _ _ _ _)
   | (with_reducible exact hopmeshref14_Check.mono _ _ _ _ _ _ _ _)
   | (with_reducible exact hopmeshref14_Contexts.mono _ _)
   | (with_reducible exact hopmeshref14_header.mono _ _ _ _ _)
   | (with_reducible exact LeO.refl _)
   | (with_reducible exact LeO.none _)
   | (with_reducible refine LeO.ite ?_ ?_)
   | (with_reducible refine LeO.bind ?_ (fun _ => ?_))
   | exact ih0 _ _ _ _ _ _ _ _ _ _
   | exact hopmeshref14_Check.mono _ _ _ _ _ _ _ _
   | exact hopmeshref14_Contexts.mono _ _
   | exact hopmeshref14_header.mono _ _ _ _ _
   | exact LeO.none _
   | refine LeO.ite ?_ ?_
   | refine LeO.bind ?_ (fun _ => ?_)
def hopmeshref14_Expand.T12 : Bool × List (List Nat × List Nat) := (true, [([], []), ([], []), ([], []), ([2], [2]), ([1, 3], [1, 3]), ([0, 0], [0]), ([4, 5, 0, 1, 2, 3, 4, 5], [4]), ([6, 0, 1, 2, 3, 4, 5, 6], [])])
def hopmeshref14_Expand.B12 : List Nat := [0, 0, 0, 4, 14, 1, 63, 127]
theorem hopmeshref14_Expand.tab12 : rtab .any (opsOf Try.f25 12) = hopmeshref14_Expand.T12 := by kernel_rfl
theorem hopmeshref14_Expand.bits12 : waitsOk hopmeshref14_Expand.T12.2 hopmeshref14_Expand.B12 = true := by kernel_rfl
set_option maxHeartbeats 8000000 in
set_option maxRecDepth 100000 in
theorem hopmeshref14_Expand.calls (k : Nat) (A0 : Option Addr) (c0 : Nat) (l0 : List (S26)) (a1 : ByteArray) (r1 : Int) (r2 : Int) (r3 : ByteArray) (r4 : ByteArray) (r5 : Int) (r6 : Int) (r7 : Int) (r8 : ByteArray) (r9 : Int) (w : World) (hr0 : Kd.C k26 w A0 l0.length l0) (hc0 : l0.length ≤ c0) (h : hopmeshref14_Expand.f k l0 a1 = some (r1, r2, r3, r4, r5, r6, r7, r8, r9)) :
  Calls Try.prog 25 #[.slice A0 l0.length c0, .string a1] w fun e w' => e = .returned (.tuple #[.agg #[.int .i64 r1, .int .i64 r2, .string r3, .string r4, .int .i64 r5, .int .i64 r6, .int .i64 r7], .string r8, .int .i64 r9]) ∧ Below w.heap.size w w' := by
 have hu24 := Try.underlying24
 have HR0 := Aside0.mk hr0
 have HC0 := Aside0.mk hc0
 clear hr0 hc0
 have HB := Aside0.mk (Below.refl w.heap.size w)
 have H : ((hopmeshref14_Contexts.f k l0).bind fun t325 => (if t325 = 0 then (if (a1.size : Int) > 65536 then (some (0, 0, (⟨#[]⟩ : ByteArray), (⟨#[]⟩ : ByteArray), 0, 0, 0, (⟨#[]⟩ : ByteArray), 8)) else ((hopmeshref02_NewReader.f a1).bind fun bt326 => ((hopmeshref14_header.f k bt326.1 bt326.2.1 bt326.2.2 l0).bind fun bt330 => ((hopmeshref02_Reader_Err.f bt330.2.2.2.2.2.2.2.1 bt330.2.2.2.2.2.2.2.2.1 bt330.2.2.2.2.2.2.2.2.2).bind fun bt341 => (if bt341.1 = 0 then ((hopmeshref14_Check.f k bt330.1 bt330.2.1 bt330.2.2.1 bt330.2.2.2.1 bt330.2.2.2.2.1 bt330.2.2.2.2.2.1 bt330.2.2.2.2.2.2.1).bind fun t345 => (hopmeshref14_Expand.j0 k l0 a1 (t345 != 0) bt330.1 bt330.2.1 bt330.2.2.1 bt330.2.2.2.1 bt330.2.2.2.2.1 bt330.2.2.2.2.2.1 bt330.2.2.2.2.2.2.1)) else (hopmeshref14_Expand.j0 k l0 a1 true bt330.1 bt330.2.1 bt330.2.2.1 bt330.2.2.2.1 bt330.2.2.2.2.1 bt330.2.2.2.2.2.1 bt330.2.2.2.2.2.2.1)))))) else (some (0, 0, (⟨#[]⟩ : ByteArray), (⟨#[]⟩ : ByteArray), 0, 0, 0, (⟨#[]⟩ : ByteArray), 1)))) = some (r1, r2, r3, r4, r5, r6, r7, r8, r9) := h
 clear h
 replace H := Option.bind_eq_some_iff.mp H
 obtain ⟨t325, A30, H⟩ := H
 replace H : (if t325 = 0 then (if (a1.size : Int) > 65536 then (some (0, 0, (⟨#[]⟩ : ByteArray), (⟨#[]⟩ : ByteArray), 0, 0, 0, (⟨#[]⟩ : ByteArray), 8)) else ((hopmeshref02_NewReader.f a1).bind fun bt326 => ((hopmeshref14_header.f k bt326.1 bt326.2.1 bt326.2.2 l0).bind fun bt330 => ((hopmeshref02_Reader_Err.f bt330.2.2.2.2.2.2.2.1 bt330.2.2.2.2.2.2.2.2.1 bt330.2.2.2.2.2.2.2.2.2).bind fun bt341 => (if bt341.1 = 0 then ((hopmeshref14_Check.f k bt330.1 bt330.2.1 bt330.2.2.1 bt330.2.2.2.1 bt330.2.2.2.2.1 bt330.2.2.2.2.2.1 bt330.2.2.2.2.2.2.1).bind fun t345 => (hopmeshref14_Expand.j0 k l0 a1 (t345 != 0) bt330.1 bt330.2.1 bt330.2.2.1 bt330.2.2.2.1 bt330.2.2.2.2.1 bt330.2.2.2.2.2.1 bt330.2.2.2.2.2.2.1)) else (hopmeshref14_Expand.j0 k l0 a1 true bt330.1 bt330.2.1 bt330.2.2.1 bt330.2.2.2.1 bt330.2.2.2.2.1 bt330.2.2.2.2.2.1 bt330.2.2.2.2.2.2.1)))))) else (some (0, 0, (⟨#[]⟩ : ByteArray), (⟨#[]⟩ : ByteArray), 0, 0, 0, (⟨#[]⟩ : ByteArray), 1))) = some (r1, r2, r3, r4, r5, r6, r7, r8, r9) := H
 have A3 := Aside0.mk A30
 clear A30
 by_cases c4 : t325 = 0
 ·
  rw [if_pos c4] at H
  have c4b0 : (t325 == 0) = true := beq_iff_eq.mpr c4
  have c4b1 : (t325 != 0) = false := bne_eq_false_iff_eq.mpr c4
  clear c4
  by_cases c5 : (a1.size : Int) > 65536
  ·
   rw [if_pos c5] at H
   have c5b0 : decide (65536 < (a1.size : Int)) = true := decide_eq_true c5
   have c5b1 : decide (65536 < a1.size) = true := decide_eq_true (by omega)
   clear c5
   simp only [Option.some.injEq, Prod.mk.injEq] at H
   obtain ⟨rfl, rfl, rfl, rfl, rfl, rfl, rfl, rfl, rfl⟩ := H
   go_enter Try.func25, Try.ntmps25
   go_wp2_with (first | ((with_reducible refine gate_dst (N := 4) rfl ?_); refine bx_ 4 #[.int .i64 0, .int .i64 0, .string (⟨#[]⟩ : ByteArray), .string (⟨#[]⟩ : ByteArray), .int .i64 0, .int .i64 0, .int .i64 0] 24 ?_; intro gb324 hg w6 hbox hb; have n0_ := Aside0.mk (below_step hb_ hb); have n1_ := Aside0.mk (hbox); have n2_ := Aside0.mk ((by rw [hg]; exact (below_size hb_) : w.heap.size ≤ gb324)); have n3_ := Aside0.mk ((by rw [hg]; exact (below_size hb_) : w.heap.size ≤ gb324)); clear HB; have HB := n0_; have BK324 := n1_; have GW324 := n2_; have GE324 := n3_; clear n0_ n1_ n2_ n3_; clear hb hbox hg) | ((with_reducible refine gate_callee (f := 23) rfl ?_); refine goesL_ (some 12) rfl rfl Try.func23 (by kernel_rfl) rfl #[.slice A0 l0.length c0] rfl am_ ?_; (with_reducible refine (hopmeshref14_Contexts.calls k _ _ l0 t325 _ ?side1 ?side2 A3.out).mono ?_); (case side1 => repeat (first | exact (Kd.C_below HR0.out HB.out) | (with_reducible refine Kd.C_alloc ?_ _) | (with_reducible refine Kd.C_drewN ?_ _) | (with_reducible refine Kd.C_drew ?_))); (case side2 => exact HC0.out); rintro e w' ⟨rfl, ⟨nd, rfl⟩⟩; refine ⟨_, rfl, ?_⟩; (try (rw [drewN_self w6]; generalize hq_ : World.drewN w6 _ = w6; have n0_ : Aside0 (w6.heap[gb324]? = some (.cells #[.int .i64 0, .int .i64 0, .string (⟨#[]⟩ : ByteArray), .string (⟨#[]⟩ : ByteArray), .int .i64 0, .int .i64 0, .int .i64 0] 24 (0, 0))) := ⟨by rw [← hq_]; exact (bj_ BK324)⟩; have n1_ : Aside0 (Below w.heap.size w w6) := ⟨by rw [← hq_]; exact hb_⟩; clear BK324 HB hq_; have BK324 := n0_; have HB := n1_; clear n0_ n1_)); have hcz7_0 := bc0 BK324; have hcz7_1 := bc1 BK324; have hcz7_2 := bc2 BK324; have hcz7_3 := bc3 BK324; have hcz7_4 := bc4 BK324; have hcz7_5 := bc5 BK324; have hcz7_6 := bc6 BK324; have hfz7_0 := blk_frozen BK324.out 0; have hfz7_1 := blk_frozen BK324.out 1; have hfz7_2 := blk_frozen BK324.out 2; have hfz7_3 := blk_frozen BK324.out 3; have hfz7_4 := blk_frozen BK324.out 4; have hfz7_5 := blk_frozen BK324.out 5; have hfz7_6 := blk_frozen BK324.out 6))
   refine bodyPost_ret (results_ctt rfl _ _ gb324 24 #[.int .i64 0, .int .i64 0, .string (⟨#[]⟩ : ByteArray), .string (⟨#[]⟩ : ByteArray), .int .i64 0, .int .i64 0, .int .i64 0] (0, 0) _ rfl (by (with_reducible repeat (first | refine blk_drewN ?_ _ | refine blk_drew ?_ | refine blk_alloc ?_ _)); refine blk_put (cs := #[.int .i64 0, .int .i64 0, .string (⟨#[]⟩ : ByteArray), .string (⟨#[]⟩ : ByteArray), .int .i64 0, .int .i64 0, .int .i64 0]) ?_ 6 _ rfl; (with_reducible repeat (first | refine blk_drewN ?_ _ | refine blk_drew ?_ | refine blk_alloc ?_ _)); refine blk_put (cs := #[.int .i64 0, .int .i64 0, .string (⟨#[]⟩ : ByteArray), .string (⟨#[]⟩ : ByteArray), .int .i64 0, .int .i64 0, .int .i64 0]) ?_ 5 _ rfl; (with_reducible repeat (first | refine blk_drewN ?_ _ | refine blk_drew ?_ | refine blk_alloc ?_ _)); refine blk_put (cs := #[.int .i64 0, .int .i64 0, .string (⟨#[]⟩ : ByteArray), .string (⟨#[]⟩ : ByteArray), .int .i64 0, .int .i64 0, .int .i64 0]) ?_ 4 _ rfl; (with_reducible repeat (first | refine blk_drewN ?_ _ | refine blk_drew ?_ | refine blk_alloc ?_ _)); refine blk_put (cs := #[.int .i64 0, .int .i64 0, .string (⟨#[]⟩ : ByteArray), .string (⟨#[]⟩ : ByteArray), .int .i64 0, .int .i64 0, .int .i64 0]) ?_ 3 _ rfl; (with_reducible repeat (first | refine blk_drewN ?_ _ | refine blk_drew ?_ | refine blk_alloc ?_ _)); refine blk_put (cs := #[.int .i64 0, .int .i64 0, .string (⟨#[]⟩ : ByteArray), .string (⟨#[]⟩ : ByteArray), .int .i64 0, .int .i64 0, .int .i64 0]) ?_ 2 _ rfl; (with_reducible repeat (first | refine blk_drewN ?_ _ | refine blk_drew ?_ | refine blk_alloc ?_ _)); refine blk_put (cs := #[.int .i64 0, .int .i64 0, .string (⟨#[]⟩ : ByteArray), .string (⟨#[]⟩ : ByteArray), .int .i64 0, .int .i64 0, .int .i64 0]) ?_ 1 _ rfl; (with_reducible repeat (first | refine blk_drewN ?_ _ | refine blk_drew ?_ | refine blk_alloc ?_ _)); refine blk_put (cs := #[.int .i64 0, .int .i64 0, .string (⟨#[]⟩ : ByteArray), .string (⟨#[]⟩ : ByteArray), .int .i64 0, .int .i64 0, .int .i64 0]) ?_ 0 _ rfl; (with_reducible repeat (first | refine blk_drewN ?_ _ | refine blk_drew ?_ | refine blk_alloc ?_ _)); exact BK324.out) Try.underlying24 rfl (by kernel_rfl)) rfl ?_
   exact ⟨er_, hb_⟩
  ·
   rw [if_neg c5] at H
   have c5b0 : decide (65536 < (a1.size : Int)) = false := decide_eq_false c5
   have c5b1 : decide (65536 < a1.size) = false := decide_eq_false (by omega)
   clear c5
   replace H := Option.bind_eq_some_iff.mp H
   obtain ⟨⟨t326, t327, t328⟩, A80, H⟩ := H
   replace H : ((hopmeshref14_header.f k t326 t327 t328 l0).bind fun bt330 => ((hopmeshref02_Reader_Err.f bt330.2.2.2.2.2.2.2.1 bt330.2.2.2.2.2.2.2.2.1 bt330.2.2.2.2.2.2.2.2.2).bind fun bt341 => (if bt341.1 = 0 then ((hopmeshref14_Check.f k bt330.1 bt330.2.1 bt330.2.2.1 bt330.2.2.2.1 bt330.2.2.2.2.1 bt330.2.2.2.2.2.1 bt330.2.2.2.2.2.2.1).bind fun t345 => (hopmeshref14_Expand.j0 k l0 a1 (t345 != 0) bt330.1 bt330.2.1 bt330.2.2.1 bt330.2.2.2.1 bt330.2.2.2.2.1 bt330.2.2.2.2.2.1 bt330.2.2.2.2.2.2.1)) else (hopmeshref14_Expand.j0 k l0 a1 true bt330.1 bt330.2.1 bt330.2.2.1 bt330.2.2.2.1 bt330.2.2.2.2.1 bt330.2.2.2.2.2.1 bt330.2.2.2.2.2.2.1)))) = some (r1, r2, r3, r4, r5, r6, r7, r8, r9) := H
   have A8 := Aside0.mk A80
   clear A80
   replace H := Option.bind_eq_some_iff.mp H
   obtain ⟨⟨t330, t331, t332, t333, t334, t335, t336, t337, t338, t339⟩, A90, H⟩ := H
   replace H : ((hopmeshref02_Reader_Err.f t337 t338 t339).bind fun bt341 => (if bt341.1 = 0 then ((hopmeshref14_Check.f k t330 t331 t332 t333 t334 t335 t336).bind fun t345 => (hopmeshref14_Expand.j0 k l0 a1 (t345 != 0) t330 t331 t332 t333 t334 t335 t336)) else (hopmeshref14_Expand.j0 k l0 a1 true t330 t331 t332 t333 t334 t335 t336))) = some (r1, r2, r3, r4, r5, r6, r7, r8, r9) := H
   have A9 := Aside0.mk A90
   clear A90
   have HC10 := Aside0.mk H
   clear H
   go_enter Try.func25, Try.ntmps25
   go_upto_region 7 with (first | ((with_reducible refine gate_dst (N := 4) rfl ?_); refine bx_ 4 #[.int .i64 0, .int .i64 0, .string (⟨#[]⟩ : ByteArray), .string (⟨#[]⟩ : ByteArray), .int .i64 0, .int .i64 0, .int .i64 0] 24 ?_; intro gb324 hg w11 hbox hb; have n0_ := Aside0.mk (below_step hb_ hb); have n1_ := Aside0.mk (hbox); have n2_ := Aside0.mk ((by rw [hg]; exact (below_size hb_) : w.heap.size ≤ gb324)); have n3_ := Aside0.mk ((by rw [hg]; exact (below_size hb_) : w.heap.size ≤ gb324)); clear HB; have HB := n0_; have BK324 := n1_; have GW324 := n2_; have GE324 := n3_; clear n0_ n1_ n2_ n3_; clear hb hbox hg) | ((with_reducible refine gate_callee (f := 23) rfl ?_); refine goesL_ (some 12) rfl rfl Try.func23 (by kernel_rfl) rfl #[.slice A0 l0.length c0] rfl am_ ?_; (with_reducible refine (hopmeshref14_Contexts.calls k _ _ l0 t325 _ ?side1 ?side2 A3.out).mono ?_); (case side1 => repeat (first | exact (Kd.C_below HR0.out HB.out) | (with_reducible refine Kd.C_alloc ?_ _) | (with_reducible refine Kd.C_drewN ?_ _) | (with_reducible refine Kd.C_drew ?_))); (case side2 => exact HC0.out); rintro e w' ⟨rfl, ⟨nd, rfl⟩⟩; refine ⟨_, rfl, ?_⟩; (try (rw [drewN_self w11]; generalize hq_ : World.drewN w11 _ = w11; have n0_ : Aside0 (w11.heap[gb324]? = some (.cells #[.int .i64 0, .int .i64 0, .string (⟨#[]⟩ : ByteArray), .string (⟨#[]⟩ : ByteArray), .int .i64 0, .int .i64 0, .int .i64 0] 24 (0, 0))) := ⟨by rw [← hq_]; exact (bj_ BK324)⟩; have n1_ : Aside0 (Below w.heap.size w w11) := ⟨by rw [← hq_]; exact hb_⟩; clear BK324 HB hq_; have BK324 := n0_; have HB := n1_; clear n0_ n1_))) | ((with_reducible refine gate_callee (f := 47) rfl ?_); refine goesL_ (some 20) rfl rfl Try.func47 (by kernel_rfl) rfl #[.string a1] rfl am_ ?_; (with_reducible refine (hopmeshref02_NewReader.calls a1 t326 t327 t328 w _ ?side1 A8.out).mono ?_); (case side1 => repeat (first | (with_reducible first | exact HB.out | apply below_alloc | apply pw_below_drewN | apply below_drew1 | refine below_set ?_ GE324.out) | exact HB.out)); rintro e w12 ⟨g329, rfl, hi, hb, hb2⟩; refine ⟨_, rfl, ?_⟩; have n0_ := Aside0.mk (blk_below (bj_ BK324) hb2); have n1_ := Aside0.mk (hb); have n2_ := Aside0.mk (hi); have n3_ := Aside0.mk (IsS107.ne_blk hi (blk_below (bj_ BK324) hb2) (by decide)); have n4_ := Aside0.mk (Ne.symm (IsS107.ne_blk hi (blk_below (bj_ BK324) hb2) (by decide))); clear BK324; clear HB; have BK324 := n0_; have HB := n1_; have HI329 := n2_; have NB329_324 := n3_; have NB324_329 := n4_; clear n0_ n1_ n2_ n3_ n4_; (try clear hb); (try clear hb2); (try clear hk); (try clear hi)) | ((with_reducible refine gate_callee (f := 48) rfl ?_); refine goesL_ (some 23) rfl rfl Try.func48 (by kernel_rfl) rfl #[.pointer (some ⟨g329, 0, none⟩), .slice A0 l0.length c0] rfl am_ ?_; (with_reducible refine (hopmeshref14_header.calls k g329 t326 t327 t328 _ _ l0 t330 t331 t332 t333 t334 t335 t336 t337 t338 t339 w _ ?side1 ?side2 ?side3 ?side4 A9.out).mono ?_); (case side1 => repeat (first | (with_reducible first | exact HI329.out | apply IsS107.alloc | apply IsS107.drewN | apply IsS107.drew | apply IsS107.set_0 | apply IsS107.set_1 | apply IsS107.set_2 | refine IsS107.far ?_ NB329_324.out _) | exact HI329.out)); (case side2 => repeat (first | (with_reducible first | exact HB.out | apply below_alloc | apply pw_below_drewN | apply below_drew1 | refine below_set ?_ (IsS107.ge HI329.out) | refine below_set ?_ GE324.out) | exact HB.out)); (case side3 => exact Kd.C_foot_came k26_heap HR0.out (by repeat (first | (with_reducible first | exact HB.out | apply below_alloc | apply pw_below_drewN | apply below_drew1 | refine below_set ?_ (IsS107.ge HI329.out) | refine below_set ?_ GE324.out) | exact HB.out)) (IsS107.ge HI329.out)); (case side4 => exact HC0.out); rintro e w13 ⟨rfl, hi, hb, hk⟩; refine ⟨_, rfl, ?_⟩; have n0_ := Aside0.mk (KeepBut.blk hk (g' := gb324) (o := .cells #[.int .i64 0, .int .i64 0, .string (⟨#[]⟩ : ByteArray), .string (⟨#[]⟩ : ByteArray), .int .i64 0, .int .i64 0, .int .i64 0] 24 (0, 0)) (bj_ BK324) NB324_329.out (by simp)); have n1_ := Aside0.mk (hb); have n2_ := Aside0.mk (hi); clear BK324; clear HB; clear HI329; have BK324 := n0_; have HB := n1_; have HI329 := n2_; clear n0_ n1_ n2_; (try clear hb); (try clear hb2); (try clear hk); (try clear hi)) | ((with_reducible refine gate_dst (N := 8) rfl ?_); refine bx_ 8 #[.int .i64 0, .int .i64 0, .string (⟨#[]⟩ : ByteArray), .string (⟨#[]⟩ : ByteArray), .int .i64 0, .int .i64 0, .int .i64 0] 24 ?_; intro gb340 hg w14 hbox hb; have n0_ := bk_ BK324 hb; have n1_ := Aside0.mk (IsS107.below (by repeat (first | (with_reducible first | exact HI329.out | apply IsS107.alloc | apply IsS107.drewN | apply IsS107.drew | apply IsS107.set_0 | apply IsS107.set_1 | apply IsS107.set_2 | refine IsS107.far ?_ NB329_324.out _) | exact HI329.out)) hb); have n2_ := Aside0.mk (below_step (by repeat (first | (with_reducible first | exact HB.out | apply below_alloc | apply pw_below_drewN | apply below_drew1 | refine below_set ?_ (IsS107.ge HI329.out) | refine below_set ?_ GE324.out) | exact HB.out)) hb); have n3_ := Aside0.mk (hbox); have n4_ := Aside0.mk ((by rw [hg]; exact (below_size (by repeat (first | (with_reducible first | exact HB.out | apply below_alloc | apply pw_below_drewN | apply below_drew1 | refine below_set ?_ (IsS107.ge HI329.out) | refine below_set ?_ GE324.out) | exact HB.out))) : w.heap.size ≤ gb340)); have n5_ := Aside0.mk ((by rw [hg]; exact (below_size (by repeat (first | (with_reducible first | exact HB.out | apply below_alloc | apply pw_below_drewN | apply below_drew1 | refine below_set ?_ (IsS107.ge HI329.out) | refine below_set ?_ GE324.out) | exact HB.out))) : w.heap.size ≤ gb340)); have n6_ := Aside0.mk ((by rw [hg]; exact Nat.ne_of_lt (blk_lt (bj_ BK324)) : gb324 ≠ gb340)); have n7_ := Aside0.mk ((by rw [hg]; exact Nat.ne_of_gt (blk_lt (bj_ BK324)) : gb340 ≠ gb324)); have n8_ := Aside0.mk ((by rw [hg]; exact Nat.ne_of_lt (IsS107.lt (show IsS107 w _ g329 t337 t338 t339 from by repeat (first | (with_reducible first | exact HI329.out | apply IsS107.alloc | apply IsS107.drewN | apply IsS107.drew | apply IsS107.set_0 | apply IsS107.set_1 | apply IsS107.set_2 | refine IsS107.far ?_ NB329_324.out _) | exact HI329.out))) : g329 ≠ gb340)); have n9_ := Aside0.mk ((by rw [hg]; exact Nat.ne_of_gt (IsS107.lt (show IsS107 w _ g329 t337 t338 t339 from by repeat (first | (with_reducible first | exact HI329.out | apply IsS107.alloc | apply IsS107.drewN | apply IsS107.drew | apply IsS107.set_0 | apply IsS107.set_1 | apply IsS107.set_2 | refine IsS107.far ?_ NB329_324.out _) | exact HI329.out))) : gb340 ≠ g329)); clear BK324; clear HI329; clear HB; have BK324 := n0_; have HI329 := n1_; have HB := n2_; have BK340 := n3_; have GW340 := n4_; have GE340 := n5_; have NB324_340 := n6_; have NB340_324 := n7_; have NB329_340 := n8_; have NB340_329 := n9_; clear n0_ n1_ n2_ n3_ n4_ n5_ n6_ n7_ n8_ n9_; clear hb hbox hg; have hnb15 := NB340_324.out; have hnc15 := NB324_340.out; have hnb16 := NB340_329.out; have hnc16 := NB329_340.out; have hcz17_0 := bc0 BK340; have hcz17_1 := bc1 BK340; have hcz17_2 := bc2 BK340; have hcz17_3 := bc3 BK340; have hcz17_4 := bc4 BK340; have hcz17_5 := bc5 BK340; have hcz17_6 := bc6 BK340; have hfz17_0 := blk_frozen BK340.out 0; have hfz17_1 := blk_frozen BK340.out 1; have hfz17_2 := blk_frozen BK340.out 2; have hfz17_3 := blk_frozen BK340.out 3; have hfz17_4 := blk_frozen BK340.out 4; have hfz17_5 := blk_frozen BK340.out 5; have hfz17_6 := blk_frozen BK340.out 6))
   (try simp only [Act.put, List.setIfInBounds_toArray, List.set_cons_zero, List.set_cons_succ])
   go_cut [31] (fun v31 wc => ∃ (kq : Nat) (x31_9 : Bool), v31 = .bool x31_9 ∧ Aside0 (hopmeshref14_Expand.j0 kq l0 a1 x31_9 t330 t331 t332 t333 t334 t335 t336 = some (r1, r2, r3, r4, r5, r6, r7, r8, r9)) ∧ Aside0 (kq ≤ k) ∧ Aside0 (wc.heap[gb324]? = some (.cells #[.int .i64 0, .int .i64 0, .string (⟨#[]⟩ : ByteArray), .string (⟨#[]⟩ : ByteArray), .int .i64 0, .int .i64 0, .int .i64 0] 24 (0, 0))) ∧ Aside0 (wc.heap[gb340]? = some (.cells #[.int .i64 t330, .int .i64 t331, .string t332, .string t333, .int .i64 t334, .int .i64 t335, .int .i64 t336] 24 (0, 0))) ∧ Aside0 (Below w.heap.size w wc))
   case first =>
    have H := HC10.out
    clear HC10
    replace H := Option.bind_eq_some_iff.mp H
    obtain ⟨⟨t341, t342, t343, t344⟩, A180, H⟩ := H
    replace H : (if t341 = 0 then ((hopmeshref14_Check.f k t330 t331 t332 t333 t334 t335 t336).bind fun t345 => (hopmeshref14_Expand.j0 k l0 a1 (t345 != 0) t330 t331 t332 t333 t334 t335 t336)) else (hopmeshref14_Expand.j0 k l0 a1 true t330 t331 t332 t333 t334 t335 t336)) = some (r1, r2, r3, r4, r5, r6, r7, r8, r9) := H
    have A18 := Aside0.mk A180
    clear A180
    by_cases c19 : t341 = 0
    ·
     rw [if_pos c19] at H
     have c19b0 : (t341 == 0) = true := beq_iff_eq.mpr c19
     have c19b1 : (t341 != 0) = false := bne_eq_false_iff_eq.mpr c19
     clear c19
     (first | rw [c19b0] | (simp only [i64_w, i32_w]; rw [c19b0]) | skip)
     replace H := Option.bind_eq_some_iff.mp H
     obtain ⟨t345, A200, H⟩ := H
     replace H : (hopmeshref14_Expand.j0 k l0 a1 (t345 != 0) t330 t331 t332 t333 t334 t335 t336) = some (r1, r2, r3, r4, r5, r6, r7, r8, r9) := H
     have A20 := Aside0.mk A200
     clear A200
     have H' := Aside0.mk H
     clear H
     go_wp2_with (first | ((with_reducible refine gate_callee (f := 49) rfl ?_); refine goesL_ (some 25) rfl rfl Try.func49 (by kernel_rfl) rfl #[.pointer (some ⟨g329, 0, none⟩)] rfl am_ ?_; (with_reducible refine (hopmeshref02_Reader_Err.calls g329 t337 t338 t339 t341 t342 t343 t344 w _ ?side1 ?side2 A18.out).mono ?_); (case side1 => repeat (first | (with_reducible first | exact HI329.out | apply IsS107.alloc | apply IsS107.drewN | apply IsS107.drew | apply IsS107.set_0 | apply IsS107.set_1 | apply IsS107.set_2 | refine IsS107.far ?_ NB329_324.out _ | refine IsS107.far ?_ NB329_340.out _) | exact HI329.out)); (case side2 => repeat (first | (with_reducible first | exact HB.out | apply below_alloc | apply pw_below_drewN | apply below_drew1 | refine below_set ?_ (IsS107.ge HI329.out) | refine below_set ?_ GE324.out | refine below_set ?_ GE340.out) | exact HB.out)); rintro e w21 ⟨rfl, hi, hb, hk⟩; refine ⟨_, rfl, ?_⟩; have n0_ := Aside0.mk (KeepBut.blk hk (g' := gb324) (o := .cells #[.int .i64 0, .int .i64 0, .string (⟨#[]⟩ : ByteArray), .string (⟨#[]⟩ : ByteArray), .int .i64 0, .int .i64 0, .int .i64 0] 24 (0, 0)) (by (with_reducible repeat (first | refine blk_drewN ?_ _ | refine blk_drew ?_ | refine blk_alloc ?_ _)); refine blk_far ?_ NB324_340.out _; (with_reducible repeat (first | refine blk_drewN ?_ _ | refine blk_drew ?_ | refine blk_alloc ?_ _)); refine blk_far ?_ NB324_340.out _; (with_reducible repeat (first | refine blk_drewN ?_ _ | refine blk_drew ?_ | refine blk_alloc ?_ _)); refine blk_far ?_ NB324_340.out _; (with_reducible repeat (first | refine blk_drewN ?_ _ | refine blk_drew ?_ | refine blk_alloc ?_ _)); refine blk_far ?_ NB324_340.out _; (with_reducible repeat (first | refine blk_drewN ?_ _ | refine blk_drew ?_ | refine blk_alloc ?_ _)); refine blk_far ?_ NB324_340.out _; (with_reducible repeat (first | refine blk_drewN ?_ _ | refine blk_drew ?_ | refine blk_alloc ?_ _)); refine blk_far ?_ NB324_340.out _; (with_reducible repeat (first | refine blk_drewN ?_ _ | refine blk_drew ?_ | refine blk_alloc ?_ _)); refine blk_far ?_ NB324_340.out _; (with_reducible repeat (first | refine blk_drewN ?_ _ | refine blk_drew ?_ | refine blk_alloc ?_ _)); exact BK324.out) NB324_329.out (by simp)); have n1_ := Aside0.mk (KeepBut.blk hk (g' := gb340) (o := .cells #[.int .i64 t330, .int .i64 t331, .string t332, .string t333, .int .i64 t334, .int .i64 t335, .int .i64 t336] 24 (0, 0)) (by (with_reducible repeat (first | refine blk_drewN ?_ _ | refine blk_drew ?_ | refine blk_alloc ?_ _)); refine blk_put (cs := #[.int .i64 t330, .int .i64 t331, .string t332, .string t333, .int .i64 t334, .int .i64 t335, .int .i64 0]) ?_ 6 _ rfl; (with_reducible repeat (first | refine blk_drewN ?_ _ | refine blk_drew ?_ | refine blk_alloc ?_ _)); refine blk_put (cs := #[.int .i64 t330, .int .i64 t331, .string t332, .string t333, .int .i64 t334, .int .i64 0, .int .i64 0]) ?_ 5 _ rfl; (with_reducible repeat (first | refine blk_drewN ?_ _ | refine blk_drew ?_ | refine blk_alloc ?_ _)); refine blk_put (cs := #[.int .i64 t330, .int .i64 t331, .string t332, .string t333, .int .i64 0, .int .i64 0, .int .i64 0]) ?_ 4 _ rfl; (with_reducible repeat (first | refine blk_drewN ?_ _ | refine blk_drew ?_ | refine blk_alloc ?_ _)); refine blk_put (cs := #[.int .i64 t330, .int .i64 t331, .string t332, .string (⟨#[]⟩ : ByteArray), .int .i64 0, .int .i64 0, .int .i64 0]) ?_ 3 _ rfl; (with_reducible repeat (first | refine blk_drewN ?_ _ | refine blk_drew ?_ | refine blk_alloc ?_ _)); refine blk_put (cs := #[.int .i64 t330, .int .i64 t331, .string (⟨#[]⟩ : ByteArray), .string (⟨#[]⟩ : ByteArray), .int .i64 0, .int .i64 0, .int .i64 0]) ?_ 2 _ rfl; (with_reducible repeat (first | refine blk_drewN ?_ _ | refine blk_drew ?_ | refine blk_alloc ?_ _)); refine blk_put (cs := #[.int .i64 t330, .int .i64 0, .string (⟨#[]⟩ : ByteArray), .string (⟨#[]⟩ : ByteArray), .int .i64 0, .int .i64 0, .int .i64 0]) ?_ 1 _ rfl; (with_reducible repeat (first | refine blk_drewN ?_ _ | refine blk_drew ?_ | refine blk_alloc ?_ _)); refine blk_put (cs := #[.int .i64 0, .int .i64 0, .string (⟨#[]⟩ : ByteArray), .string (⟨#[]⟩ : ByteArray), .int .i64 0, .int .i64 0, .int .i64 0]) ?_ 0 _ rfl; (with_reducible repeat (first | refine blk_drewN ?_ _ | refine blk_drew ?_ | refine blk_alloc ?_ _)); exact BK340.out) NB340_329.out (by simp)); have n2_ := Aside0.mk (hb); have n3_ := Aside0.mk (hi); clear BK324; clear BK340; clear HB; clear HI329; have BK324 := n0_; have BK340 := n1_; have HB := n2_; have HI329 := n3_; clear n0_ n1_ n2_ n3_; (try clear hb); (try clear hb2); (try clear hk); (try clear hi); have hnb22 := NB340_324.out; have hnc22 := NB324_340.out; have hnb23 := NB340_329.out; have hnc23 := NB329_340.out; have hcz24_0 := bc0 BK340; have hcz24_1 := bc1 BK340; have hcz24_2 := bc2 BK340; have hcz24_3 := bc3 BK340; have hcz24_4 := bc4 BK340; have hcz24_5 := bc5 BK340; have hcz24_6 := bc6 BK340; have hfz24_0 := blk_frozen BK340.out 0; have hfz24_1 := blk_frozen BK340.out 1; have hfz24_2 := blk_frozen BK340.out 2; have hfz24_3 := blk_frozen BK340.out 3; have hfz24_4 := blk_frozen BK340.out 4; have hfz24_5 := blk_frozen BK340.out 5; have hfz24_6 := blk_frozen BK340.out 6) | (go_at_call 21; (with_reducible refine (hopmeshref14_Check.calls k t330 t331 t332 t333 t334 t335 t336 t345 _ A20.out).mono ?_); rintro e w25 ⟨rfl, hb⟩; have n0_ := bk_ BK324 hb; have n1_ := Aside0.mk (IsS107.below (by repeat (first | (with_reducible first | exact HI329.out | apply IsS107.alloc | apply IsS107.drewN | apply IsS107.drew | apply IsS107.set_0 | apply IsS107.set_1 | apply IsS107.set_2 | refine IsS107.far ?_ NB329_324.out _ | refine IsS107.far ?_ NB329_340.out _) | exact HI329.out)) hb); have n2_ := bk_ BK340 hb; have n3_ := Aside0.mk (below_step (by repeat (first | (with_reducible first | exact HB.out | apply below_alloc | apply pw_below_drewN | apply below_drew1 | refine below_set ?_ (IsS107.ge HI329.out) | refine below_set ?_ GE324.out | refine below_set ?_ GE340.out) | exact HB.out)) hb); clear BK324; clear HI329; clear BK340; clear HB; have BK324 := n0_; have HI329 := n1_; have BK340 := n2_; have HB := n3_; clear n0_ n1_ n2_ n3_; (try clear hb); (try clear hb2); (try clear hk); (try clear hi)))
     go_meet
     case rel => exact ⟨_, ((t345 != 0)), rl_, H', ⟨by first | omega | exact Nat.le_refl _⟩, ⟨bj_ BK324⟩, ⟨bj_ BK340⟩, ⟨by repeat (first | (with_reducible first | exact HB.out | apply below_alloc | apply pw_below_drewN | apply below_drew1 | refine below_set ?_ (IsS107.ge HI329.out) | refine below_set ?_ GE324.out | refine below_set ?_ GE340.out) | exact HB.out)⟩⟩
    ·
     rw [if_neg c19] at H
     have c19b0 : (t341 == 0) = false := beq_eq_false_iff_ne.mpr c19
     have c19b1 : (t341 != 0) = true := bne_iff_ne.mpr c19
     (first | rw [c19b0] | (simp only [i64_w, i32_w]; rw [c19b0]) | skip)
     have H' := Aside0.mk H
     clear H
     go_wp2_with (first | ((with_reducible refine gate_callee (f := 49) rfl ?_); refine goesL_ (some 25) rfl rfl Try.func49 (by kernel_rfl) rfl #[.pointer (some ⟨g329, 0, none⟩)] rfl am_ ?_; (with_reducible refine (hopmeshref02_Reader_Err.calls g329 t337 t338 t339 t341 t342 t343 t344 w _ ?side1 ?side2 A18.out).mono ?_); (case side1 => repeat (first | (with_reducible first | exact HI329.out | apply IsS107.alloc | apply IsS107.drewN | apply IsS107.drew | apply IsS107.set_0 | apply IsS107.set_1 | apply IsS107.set_2 | refine IsS107.far ?_ NB329_324.out _ | refine IsS107.far ?_ NB329_340.out _) | exact HI329.out)); (case side2 => repeat (first | (with_reducible first | exact HB.out | apply below_alloc | apply pw_below_drewN | apply below_drew1 | refine below_set ?_ (IsS107.ge HI329.out) | refine below_set ?_ GE324.out | refine below_set ?_ GE340.out) | exact HB.out)); rintro e w26 ⟨rfl, hi, hb, hk⟩; refine ⟨_, rfl, ?_⟩; have n0_ := Aside0.mk (KeepBut.blk hk (g' := gb324) (o := .cells #[.int .i64 0, .int .i64 0, .string (⟨#[]⟩ : ByteArray), .string (⟨#[]⟩ : ByteArray), .int .i64 0, .int .i64 0, .int .i64 0] 24 (0, 0)) (by (with_reducible repeat (first | refine blk_drewN ?_ _ | refine blk_drew ?_ | refine blk_alloc ?_ _)); refine blk_far ?_ NB324_340.out _; (with_reducible repeat (first | refine blk_drewN ?_ _ | refine blk_drew ?_ | refine blk_alloc ?_ _)); refine blk_far ?_ NB324_340.out _; (with_reducible repeat (first | refine blk_drewN ?_ _ | refine blk_drew ?_ | refine blk_alloc ?_ _)); refine blk_far ?_ NB324_340.out _; (with_reducible repeat (first | refine blk_drewN ?_ _ | refine blk_drew ?_ | refine blk_alloc ?_ _)); refine blk_far ?_ NB324_340.out _; (with_reducible repeat (first | refine blk_drewN ?_ _ | refine blk_drew ?_ | refine blk_alloc ?_ _)); refine blk_far ?_ NB324_340.out _; (with_reducible repeat (first | refine blk_drewN ?_ _ | refine blk_drew ?_ | refine blk_alloc ?_ _)); refine blk_far ?_ NB324_340.out _; (with_reducible repeat (first | refine blk_drewN ?_ _ | refine blk_drew ?_ | refine blk_alloc ?_ _)); refine blk_far ?_ NB324_340.out _; (with_reducible repeat (first | refine blk_drewN ?_ _ | refine blk_drew ?_ | refine blk_alloc ?_ _)); exact BK324.out) NB324_329.out (by simp)); have n1_ := Aside0.mk (KeepBut.blk hk (g' := gb340) (o := .cells #[.int .i64 t330, .int .i64 t331, .string t332, .string t333, .int .i64 t334, .int .i64 t335, .int .i64 t336] 24 (0, 0)) (by (with_reducible repeat (first | refine blk_drewN ?_ _ | refine blk_drew ?_ | refine blk_alloc ?_ _)); refine blk_put (cs := #[.int .i64 t330, .int .i64 t331, .string t332, .string t333, .int .i64 t334, .int .i64 t335, .int .i64 0]) ?_ 6 _ rfl; (with_reducible repeat (first | refine blk_drewN ?_ _ | refine blk_drew ?_ | refine blk_alloc ?_ _)); refine blk_put (cs := #[.int .i64 t330, .int .i64 t331, .string t332, .string t333, .int .i64 t334, .int .i64 0, .int .i64 0]) ?_ 5 _ rfl; (with_reducible repeat (first | refine blk_drewN ?_ _ | refine blk_drew ?_ | refine blk_alloc ?_ _)); refine blk_put (cs := #[.int .i64 t330, .int .i64 t331, .string t332, .string t333, .int .i64 0, .int .i64 0, .int .i64 0]) ?_ 4 _ rfl; (with_reducible repeat (first | refine blk_drewN ?_ _ | refine blk_drew ?_ | refine blk_alloc ?_ _)); refine blk_put (cs := #[.int .i64 t330, .int .i64 t331, .string t332, .string (⟨#[]⟩ : ByteArray), .int .i64 0, .int .i64 0, .int .i64 0]) ?_ 3 _ rfl; (with_reducible repeat (first | refine blk_drewN ?_ _ | refine blk_drew ?_ | refine blk_alloc ?_ _)); refine blk_put (cs := #[.int .i64 t330, .int .i64 t331, .string (⟨#[]⟩ : ByteArray), .string (⟨#[]⟩ : ByteArray), .int .i64 0, .int .i64 0, .int .i64 0]) ?_ 2 _ rfl; (with_reducible repeat (first | refine blk_drewN ?_ _ | refine blk_drew ?_ | refine blk_alloc ?_ _)); refine blk_put (cs := #[.int .i64 t330, .int .i64 0, .string (⟨#[]⟩ : ByteArray), .string (⟨#[]⟩ : ByteArray), .int .i64 0, .int .i64 0, .int .i64 0]) ?_ 1 _ rfl; (with_reducible repeat (first | refine blk_drewN ?_ _ | refine blk_drew ?_ | refine blk_alloc ?_ _)); refine blk_put (cs := #[.int .i64 0, .int .i64 0, .string (⟨#[]⟩ : ByteArray), .string (⟨#[]⟩ : ByteArray), .int .i64 0, .int .i64 0, .int .i64 0]) ?_ 0 _ rfl; (with_reducible repeat (first | refine blk_drewN ?_ _ | refine blk_drew ?_ | refine blk_alloc ?_ _)); exact BK340.out) NB340_329.out (by simp)); have n2_ := Aside0.mk (hb); have n3_ := Aside0.mk (hi); clear BK324; clear BK340; clear HB; clear HI329; have BK324 := n0_; have BK340 := n1_; have HB := n2_; have HI329 := n3_; clear n0_ n1_ n2_ n3_; (try clear hb); (try clear hb2); (try clear hk); (try clear hi)))
     go_meet
     case rel => exact ⟨_, (true), rl_, H', ⟨by first | omega | exact Nat.le_refl _⟩, ⟨bj_ BK324⟩, ⟨bj_ BK340⟩, ⟨by repeat (first | (with_reducible first | exact HB.out | apply below_alloc | apply pw_below_drewN | apply below_drew1 | refine below_set ?_ (IsS107.ge HI329.out) | refine below_set ?_ GE324.out | refine below_set ?_ GE340.out) | exact HB.out)⟩⟩
   case rest =>
    clear HC10
    try clear c1; try clear c2; try clear p2; try clear c4; try clear c4b0; try clear c4b1; try clear c5; try clear c5b0; try clear c5b1; try clear c15; try clear c16; try clear c19; try clear c19b0; try clear c19b1; try clear c22; try clear c23; try clear c25; try clear hcz17_0; try clear hcz17_1; try clear hcz17_2; try clear hcz17_3; try clear hcz17_4; try clear hcz17_5; try clear hcz17_6; try clear hcz24_0; try clear hcz24_1; try clear hcz24_2; try clear hcz24_3; try clear hcz24_4; try clear hcz24_5; try clear hcz24_6; try clear hcz7_0; try clear hcz7_1; try clear hcz7_2; try clear hcz7_3; try clear hcz7_4; try clear hcz7_5; try clear hcz7_6; try clear hfz17_0; try clear hfz17_1; try clear hfz17_2; try clear hfz17_3; try clear hfz17_4; try clear hfz17_5; try clear hfz17_6; try clear hfz24_0; try clear hfz24_1; try clear hfz24_2; try clear hfz24_3; try clear hfz24_4; try clear hfz24_5; try clear hfz24_6; try clear hfz7_0; try clear hfz7_1; try clear hfz7_2; try clear hfz7_3; try clear hfz7_4; try clear hfz7_5; try clear hfz7_6
    (repeat clear BK324); (repeat clear BK340); (repeat clear HB)
    obtain ⟨kq, x31_9, rfl, HA, HJ9, BK324, BK340, HB⟩ := hcut
    cases kq with
    | zero => exact absurd HA.out (by simp [hopmeshref14_Expand.j0])
    | succ kj9 =>
     have H := HA.out
     clear HA
     simp only [hopmeshref14_Expand.j0] at H
     by_cases c27 : x31_9 = true
     ·
      subst c27
      have H1 : (some (0, 0, (⟨#[]⟩ : ByteArray), (⟨#[]⟩ : ByteArray), 0, 0, 0, (⟨#[]⟩ : ByteArray), 10)) = some (r1, r2, r3, r4, r5, r6, r7, r8, r9) := by rw [if_pos rfl] at H; exact H
      clear H
      have H := H1
      clear H1
      simp only [Option.some.injEq, Prod.mk.injEq] at H
      obtain ⟨rfl, rfl, rfl, rfl, rfl, rfl, rfl, rfl, rfl⟩ := H
      have hnb28 := NB324_340.out
      have hnc28 := NB340_324.out
      have hcz29_0 := bc0 BK324
      have hcz29_1 := bc1 BK324
      have hcz29_2 := bc2 BK324
      have hcz29_3 := bc3 BK324
      have hcz29_4 := bc4 BK324
      have hcz29_5 := bc5 BK324
      have hcz29_6 := bc6 BK324
      have hfz29_0 := blk_frozen BK324.out 0
      have hfz29_1 := blk_frozen BK324.out 1
      have hfz29_2 := blk_frozen BK324.out 2
      have hfz29_3 := blk_frozen BK324.out 3
      have hfz29_4 := blk_frozen BK324.out 4
      have hfz29_5 := blk_frozen BK324.out 5
      have hfz29_6 := blk_frozen BK324.out 6
      go_wp2
      refine bodyPost_ret (results_ctt rfl _ _ gb324 24 #[.int .i64 0, .int .i64 0, .string (⟨#[]⟩ : ByteArray), .string (⟨#[]⟩ : ByteArray), .int .i64 0, .int .i64 0, .int .i64 0] (0, 0) _ rfl (by (with_reducible repeat (first | refine blk_drewN ?_ _ | refine blk_drew ?_ | refine blk_alloc ?_ _)); refine blk_put (cs := #[.int .i64 0, .int .i64 0, .string (⟨#[]⟩ : ByteArray), .string (⟨#[]⟩ : ByteArray), .int .i64 0, .int .i64 0, .int .i64 0]) ?_ 6 _ rfl; (with_reducible repeat (first | refine blk_drewN ?_ _ | refine blk_drew ?_ | refine blk_alloc ?_ _)); refine blk_put (cs := #[.int .i64 0, .int .i64 0, .string (⟨#[]⟩ : ByteArray), .string (⟨#[]⟩ : ByteArray), .int .i64 0, .int .i64 0, .int .i64 0]) ?_ 5 _ rfl; (with_reducible repeat (first | refine blk_drewN ?_ _ | refine blk_drew ?_ | refine blk_alloc ?_ _)); refine blk_put (cs := #[.int .i64 0, .int .i64 0, .string (⟨#[]⟩ : ByteArray), .string (⟨#[]⟩ : ByteArray), .int .i64 0, .int .i64 0, .int .i64 0]) ?_ 4 _ rfl; (with_reducible repeat (first | refine blk_drewN ?_ _ | refine blk_drew ?_ | refine blk_alloc ?_ _)); refine blk_put (cs := #[.int .i64 0, .int .i64 0, .string (⟨#[]⟩ : ByteArray), .string (⟨#[]⟩ : ByteArray), .int .i64 0, .int .i64 0, .int .i64 0]) ?_ 3 _ rfl; (with_reducible repeat (first | refine blk_drewN ?_ _ | refine blk_drew ?_ | refine blk_alloc ?_ _)); refine blk_put (cs := #[.int .i64 0, .int .i64 0, .string (⟨#[]⟩ : ByteArray), .string (⟨#[]⟩ : ByteArray), .int .i64 0, .int .i64 0, .int .i64 0]) ?_ 2 _ rfl; (with_reducible repeat (first | refine blk_drewN ?_ _ | refine blk_drew ?_ | refine blk_alloc ?_ _)); refine blk_put (cs := #[.int .i64 0, .int .i64 0, .string (⟨#[]⟩ : ByteArray), .string (⟨#[]⟩ : ByteArray), .int .i64 0, .int .i64 0, .int .i64 0]) ?_ 1 _ rfl; (with_reducible repeat (first | refine blk_drewN ?_ _ | refine blk_drew ?_ | refine blk_alloc ?_ _)); refine blk_put (cs := #[.int .i64 0, .int .i64 0, .string (⟨#[]⟩ : ByteArray), .string (⟨#[]⟩ : ByteArray), .int .i64 0, .int .i64 0, .int .i64 0]) ?_ 0 _ rfl; (with_reducible repeat (first | refine blk_drewN ?_ _ | refine blk_drew ?_ | refine blk_alloc ?_ _)); exact BK324.out) Try.underlying24 rfl (by kernel_rfl)) rfl ?_
      exact ⟨er_, hb_⟩
     ·
      replace c27 := Bool.eq_false_iff.mpr c27
      subst c27
      have H1 : ((hopmeshref14_Compress.f l0 t330 t331 t332 t333 t334 t335 t336).bind fun bt346 => (if (bt346.1.size : Int) > (a1.size : Int) then (some (0, 0, (⟨#[]⟩ : ByteArray), (⟨#[]⟩ : ByteArray), 0, 0, 0, (⟨#[]⟩ : ByteArray), 10)) else (if 0 ≤ (bt346.1.size : Int) then (if (bt346.1.size : Int) ≤ (a1.size : Int) then (if (a1.extract 0 ((bt346.1.size : Int) : Int).toNat).toList = bt346.1.toList then (some (t330, t331, t332, t333, t334, t335, t336, a1.extract ((bt346.1.size : Int) : Int).toNat a1.size, 0)) else (some (0, 0, (⟨#[]⟩ : ByteArray), (⟨#[]⟩ : ByteArray), 0, 0, 0, (⟨#[]⟩ : ByteArray), 10))) else (none)) else (none)))) = some (r1, r2, r3, r4, r5, r6, r7, r8, r9) := by rw [if_neg (show ¬ (false = true) by decide)] at H; exact H
      clear H
      have H := H1
      clear H1
      replace H := Option.bind_eq_some_iff.mp H
      obtain ⟨⟨t346, t347⟩, A300, H⟩ := H
      replace H : (if (t346.size : Int) > (a1.size : Int) then (some (0, 0, (⟨#[]⟩ : ByteArray), (⟨#[]⟩ : ByteArray), 0, 0, 0, (⟨#[]⟩ : ByteArray), 10)) else (if 0 ≤ (t346.size : Int) then (if (t346.size : Int) ≤ (a1.size : Int) then (if (a1.extract 0 ((t346.size : Int) : Int).toNat).toList = t346.toList then (some (t330, t331, t332, t333, t334, t335, t336, a1.extract ((t346.size : Int) : Int).toNat a1.size, 0)) else (some (0, 0, (⟨#[]⟩ : ByteArray), (⟨#[]⟩ : ByteArray), 0, 0, 0, (⟨#[]⟩ : ByteArray), 10))) else (none)) else (none))) = some (r1, r2, r3, r4, r5, r6, r7, r8, r9) := H
      have A30 := Aside0.mk A300
      clear A300
      by_cases c31 : (t346.size : Int) > (a1.size : Int)
      ·
       rw [if_pos c31] at H
       have c31b0 : decide ((a1.size : Int) < (t346.size : Int)) = true := decide_eq_true c31
       have c31b1 : decide (a1.size < t346.size) = true := decide_eq_true (Int.ofNat_lt.mp c31)
       clear c31
       simp only [Option.some.injEq, Prod.mk.injEq] at H
       obtain ⟨rfl, rfl, rfl, rfl, rfl, rfl, rfl, rfl, rfl⟩ := H
       have hnb32 := NB340_324.out
       have hnc32 := NB324_340.out
       have hcz33_0 := bc0 BK340
       have hcz33_1 := bc1 BK340
       have hcz33_2 := bc2 BK340
       have hcz33_3 := bc3 BK340
       have hcz33_4 := bc4 BK340
       have hcz33_5 := bc5 BK340
       have hcz33_6 := bc6 BK340
       have hfz33_0 := blk_frozen BK340.out 0
       have hfz33_1 := blk_frozen BK340.out 1
       have hfz33_2 := blk_frozen BK340.out 2
       have hfz33_3 := blk_frozen BK340.out 3
       have hfz33_4 := blk_frozen BK340.out 4
       have hfz33_5 := blk_frozen BK340.out 5
       have hfz33_6 := blk_frozen BK340.out 6
       go_wp2_with (first | ((with_reducible refine gate_callee (f := 18) rfl ?_); refine goesL_ (some 36) rfl rfl Try.func18 (by kernel_rfl) rfl #[.slice A0 l0.length c0, .agg #[.int .i64 t330, .int .i64 t331, .string t332, .string t333, .int .i64 t334, .int .i64 t335, .int .i64 t336]] rfl am_ ?_; (with_reducible refine (hopmeshref14_Compress.calls _ _ l0 t330 t331 t332 t333 t334 t335 t336 t346 t347 _ ?side1 ?side2 A30.out).mono ?_); (case side1 => repeat (first | exact (Kd.C_below HR0.out HB.out) | (with_reducible refine Kd.C_alloc ?_ _) | (with_reducible refine Kd.C_drewN ?_ _) | (with_reducible refine Kd.C_drew ?_))); (case side2 => exact HC0.out); rintro e w34 ⟨rfl, hb⟩; refine ⟨_, rfl, ?_⟩; have n0_ := bk_ BK324 hb; have n1_ := bk_ BK340 hb; have n2_ := Aside0.mk (below_step hb_ hb); clear BK324; clear BK340; clear HB; have BK324 := n0_; have BK340 := n1_; have HB := n2_; clear n0_ n1_ n2_; (try clear hb); (try clear hb2); (try clear hk); (try clear hi); have hcz35_0 := bc0 BK324; have hcz35_1 := bc1 BK324; have hcz35_2 := bc2 BK324; have hcz35_3 := bc3 BK324; have hcz35_4 := bc4 BK324; have hcz35_5 := bc5 BK324; have hcz35_6 := bc6 BK324; have hfz35_0 := blk_frozen BK324.out 0; have hfz35_1 := blk_frozen BK324.out 1; have hfz35_2 := blk_frozen BK324.out 2; have hfz35_3 := blk_frozen BK324.out 3; have hfz35_4 := blk_frozen BK324.out 4; have hfz35_5 := blk_frozen BK324.out 5; have hfz35_6 := blk_frozen BK324.out 6))
       refine bodyPost_ret (results_ctt rfl _ _ gb324 24 #[.int .i64 0, .int .i64 0, .string (⟨#[]⟩ : ByteArray), .string (⟨#[]⟩ : ByteArray), .int .i64 0, .int .i64 0, .int .i64 0] (0, 0) _ rfl (by (with_reducible repeat (first | refine blk_drewN ?_ _ | refine blk_drew ?_ | refine blk_alloc ?_ _)); refine blk_put (cs := #[.int .i64 0, .int .i64 0, .string (⟨#[]⟩ : ByteArray), .string (⟨#[]⟩ : ByteArray), .int .i64 0, .int .i64 0, .int .i64 0]) ?_ 6 _ rfl; (with_reducible repeat (first | refine blk_drewN ?_ _ | refine blk_drew ?_ | refine blk_alloc ?_ _)); refine blk_put (cs := #[.int .i64 0, .int .i64 0, .string (⟨#[]⟩ : ByteArray), .string (⟨#[]⟩ : ByteArray), .int .i64 0, .int .i64 0, .int .i64 0]) ?_ 5 _ rfl; (with_reducible repeat (first | refine blk_drewN ?_ _ | refine blk_drew ?_ | refine blk_alloc ?_ _)); refine blk_put (cs := #[.int .i64 0, .int .i64 0, .string (⟨#[]⟩ : ByteArray), .string (⟨#[]⟩ : ByteArray), .int .i64 0, .int .i64 0, .int .i64 0]) ?_ 4 _ rfl; (with_reducible repeat (first | refine blk_drewN ?_ _ | refine blk_drew ?_ | refine blk_alloc ?_ _)); refine blk_put (cs := #[.int .i64 0, .int .i64 0, .string (⟨#[]⟩ : ByteArray), .string (⟨#[]⟩ : ByteArray), .int .i64 0, .int .i64 0, .int .i64 0]) ?_ 3 _ rfl; (with_reducible repeat (first | refine blk_drewN ?_ _ | refine blk_drew ?_ | refine blk_alloc ?_ _)); refine blk_put (cs := #[.int .i64 0, .int .i64 0, .string (⟨#[]⟩ : ByteArray), .string (⟨#[]⟩ : ByteArray), .int .i64 0, .int .i64 0, .int .i64 0]) ?_ 2 _ rfl; (with_reducible repeat (first | refine blk_drewN ?_ _ | refine blk_drew ?_ | refine blk_alloc ?_ _)); refine blk_put (cs := #[.int .i64 0, .int .i64 0, .string (⟨#[]⟩ : ByteArray), .string (⟨#[]⟩ : ByteArray), .int .i64 0, .int .i64 0, .int .i64 0]) ?_ 1 _ rfl; (with_reducible repeat (first | refine blk_drewN ?_ _ | refine blk_drew ?_ | refine blk_alloc ?_ _)); refine blk_put (cs := #[.int .i64 0, .int .i64 0, .string (⟨#[]⟩ : ByteArray), .string (⟨#[]⟩ : ByteArray), .int .i64 0, .int .i64 0, .int .i64 0]) ?_ 0 _ rfl; (with_reducible repeat (first | refine blk_drewN ?_ _ | refine blk_drew ?_ | refine blk_alloc ?_ _)); exact BK324.out) Try.underlying24 rfl (by kernel_rfl)) rfl ?_
       exact ⟨er_, hb_⟩
      ·
       rw [if_neg c31] at H
       have c31b0 : decide ((a1.size : Int) < (t346.size : Int)) = false := decide_eq_false c31
       have c31b1 : decide (a1.size < t346.size) = false := decide_eq_false (fun h => c31 (Int.ofNat_lt.mpr h))
       clear c31
       by_cases c36 : 0 ≤ (t346.size : Int)
       ·
        rw [if_pos c36] at H
        have c36b0 := eq_true c36
        have c36b1 : decide (0 ≤ (t346.size : Int)) = true := decide_eq_true c36
        clear c36
        by_cases c37 : (t346.size : Int) ≤ (a1.size : Int)
        ·
         rw [if_pos c37] at H
         have c37b0 := eq_true c37
         have c37b1 : decide ((t346.size : Int) ≤ (a1.size : Int)) = true := decide_eq_true c37
         clear c37
         by_cases c38 : (a1.extract 0 ((t346.size : Int) : Int).toNat).toList = t346.toList
         ·
          rw [if_pos c38] at H
          have c38b0 : ((a1.extract 0 ((t346.size : Int) : Int).toNat).toList == t346.toList) = true := beq_iff_eq.mpr c38
          try simp only [Int.toNat_natCast] at c38b0
          have c38b1 : ((a1.extract 0 ((t346.size : Int) : Int).toNat).toList != t346.toList) = false := bne_eq_false_iff_eq.mpr c38
          try simp only [Int.toNat_natCast] at c38b1
          clear c38
          have c39b0 := eq_true (of_decide_eq_true (by assumption) : 0 ≤ (t346.size : Int))
          have c40b0 := eq_true (of_decide_eq_true (by assumption) : (t346.size : Int) ≤ (a1.size : Int))
          simp only [Option.some.injEq, Prod.mk.injEq] at H
          obtain ⟨rfl, rfl, rfl, rfl, rfl, rfl, rfl, rfl, rfl⟩ := H
          have hnb41 := NB340_324.out
          have hnc41 := NB324_340.out
          have hcz42_0 := bc0 BK340
          have hcz42_1 := bc1 BK340
          have hcz42_2 := bc2 BK340
          have hcz42_3 := bc3 BK340
          have hcz42_4 := bc4 BK340
          have hcz42_5 := bc5 BK340
          have hcz42_6 := bc6 BK340
          have hfz42_0 := blk_frozen BK340.out 0
          have hfz42_1 := blk_frozen BK340.out 1
          have hfz42_2 := blk_frozen BK340.out 2
          have hfz42_3 := blk_frozen BK340.out 3
          have hfz42_4 := blk_frozen BK340.out 4
          have hfz42_5 := blk_frozen BK340.out 5
          have hfz42_6 := blk_frozen BK340.out 6
          try go_wp2_with (first | ((with_reducible refine gate_callee (f := 18) rfl ?_); refine goesL_ (some 36) rfl rfl Try.func18 (by kernel_rfl) rfl #[.slice A0 l0.length c0, .agg #[.int .i64 t330, .int .i64 t331, .string t332, .string t333, .int .i64 t334, .int .i64 t335, .int .i64 t336]] rfl am_ ?_; (with_reducible refine (hopmeshref14_Compress.calls _ _ l0 t330 t331 t332 t333 t334 t335 t336 t346 t347 _ ?side1 ?side2 A30.out).mono ?_); (case side1 => repeat (first | exact (Kd.C_below HR0.out HB.out) | (with_reducible refine Kd.C_alloc ?_ _) | (with_reducible refine Kd.C_drewN ?_ _) | (with_reducible refine Kd.C_drew ?_))); (case side2 => exact HC0.out); rintro e w43 ⟨rfl, hb⟩; refine ⟨_, rfl, ?_⟩; have n0_ := bk_ BK324 hb; have n1_ := bk_ BK340 hb; have n2_ := Aside0.mk (below_step hb_ hb); clear BK324; clear BK340; clear HB; have BK324 := n0_; have BK340 := n1_; have HB := n2_; clear n0_ n1_ n2_; (try clear hb); (try clear hb2); (try clear hk); (try clear hi)))
          have n0_ := Aside0.mk (blk_drew BK324.out)
          have n1_ := Aside0.mk (blk_drew BK340.out)
          have n2_ := Aside0.mk (below_drew1 HB.out)
          clear BK324
          clear BK340
          clear HB
          have BK324 := n0_
          have BK340 := n1_
          have HB := n2_
          clear n0_ n1_ n2_
          refine start_ (n := 8) (S := fun w' => w'.cell? ⟨gb340, 0, none⟩ = some (.int .i64 t330) ∧ w'.cell? ⟨gb340, 1, none⟩ = some (.int .i64 t331) ∧ w'.cell? ⟨gb340, 2, none⟩ = some (.string t332) ∧ w'.cell? ⟨gb340, 3, none⟩ = some (.string t333) ∧ w'.cell? ⟨gb340, 4, none⟩ = some (.int .i64 t334) ∧ w'.cell? ⟨gb340, 5, none⟩ = some (.int .i64 t335) ∧ w'.cell? ⟨gb340, 6, none⟩ = some (.int .i64 t336)) (ds := []) #[false, false, false, false, false, false, false, false] (by kernel_rfl) rfl rfl ⟨(blk_cell BK340.out 0).trans rfl, (blk_cell BK340.out 1).trans rfl, (blk_cell BK340.out 2).trans rfl, (blk_cell BK340.out 3).trans rfl, (blk_cell BK340.out 4).trans rfl, (blk_cell BK340.out 5).trans rfl, (blk_cell BK340.out 6).trans rfl⟩ (fun hHeld => ?_); refine with_tabW hopmeshref14_Expand.tab12 hopmeshref14_Expand.bits12 (fun HT_ HW_ => ?_)
          generalize w43.drew = w44 at BK324 BK340 HB hHeld ⊢
          refine pu_ HT_ 1 54 (bl 8 2) ?_
          refine pu_ HT_ 2 55 (bl 8 6) ?_
          refine pu_ HT_ 3 56 (bl 8 14) ?_
          refine pu_ HT_ 4 57 (bl 8 30) ?_
          refine tk_ HT_ HW_ hHeld 0 53 (bl 8 31) ?_
          refine one_ (i := 5) (N := none) (bl 8 63) rfl rfl (one_of HT_.out (by kernel_rfl)) (by decide) (fun K hK => ?_)
          have hs45 : w44.cell? ⟨gb324, 0, none⟩ = some (.int .i64 0) := (blk_cell BK324.out 0).trans rfl
          have hfs45 := blk_frozen BK324.out 0
          have hns45_1 := NB340_324.out
          have hms45_1 := NB324_340.out
          have hs46 : w44.cell? ⟨gb324, 1, none⟩ = some (.int .i64 0) := (blk_cell BK324.out 1).trans rfl
          have hfs46 := blk_frozen BK324.out 1
          have hns46_1 := NB340_324.out
          have hms46_1 := NB324_340.out
          have hs47 : w44.cell? ⟨gb324, 2, none⟩ = some (.string (⟨#[]⟩ : ByteArray)) := (blk_cell BK324.out 2).trans rfl
          have hfs47 := blk_frozen BK324.out 2
          have hns47_1 := NB340_324.out
          have hms47_1 := NB324_340.out
          have hs48 : w44.cell? ⟨gb324, 3, none⟩ = some (.string (⟨#[]⟩ : ByteArray)) := (blk_cell BK324.out 3).trans rfl
          have hfs48 := blk_frozen BK324.out 3
          have hns48_1 := NB340_324.out
          have hms48_1 := NB324_340.out
          have hs49 : w44.cell? ⟨gb324, 4, none⟩ = some (.int .i64 0) := (blk_cell BK324.out 4).trans rfl
          have hfs49 := blk_frozen BK324.out 4
          have hns49_1 := NB340_324.out
          have hms49_1 := NB324_340.out
          have hs50 : w44.cell? ⟨gb324, 5, none⟩ = some (.int .i64 0) := (blk_cell BK324.out 5).trans rfl
          have hfs50 := blk_frozen BK324.out 5
          have hns50_1 := NB340_324.out
          have hms50_1 := NB324_340.out
          have hs51 : w44.cell? ⟨gb324, 6, none⟩ = some (.int .i64 0) := (blk_cell BK324.out 6).trans rfl
          have hfs51 := blk_frozen BK324.out 6
          have hns51_1 := NB340_324.out
          have hms51_1 := NB324_340.out
          refine skip_ (w1 := ?_) (by rfl) rfl ?_ ?_
          rotate_left
          ·
           go_simp
           rfl
          refine hK.out _ _ ⟨((cell_far (p := ⟨gb324, _, none⟩) NB340_324.out _).trans (((cell_far (p := ⟨gb324, _, none⟩) NB340_324.out _).trans (((cell_far (p := ⟨gb324, _, none⟩) NB340_324.out _).trans (((cell_far (p := ⟨gb324, _, none⟩) NB340_324.out _).trans (((cell_far (p := ⟨gb324, _, none⟩) NB340_324.out _).trans (((cell_far (p := ⟨gb324, _, none⟩) NB340_324.out _).trans (((cell_far (p := ⟨gb324, _, none⟩) NB340_324.out _).trans (hHeld.1)))))))))))))), ((cell_far (p := ⟨gb324, _, none⟩) NB340_324.out _).trans (((cell_far (p := ⟨gb324, _, none⟩) NB340_324.out _).trans (((cell_far (p := ⟨gb324, _, none⟩) NB340_324.out _).trans (((cell_far (p := ⟨gb324, _, none⟩) NB340_324.out _).trans (((cell_far (p := ⟨gb324, _, none⟩) NB340_324.out _).trans (((cell_far (p := ⟨gb324, _, none⟩) NB340_324.out _).trans (((cell_far (p := ⟨gb324, _, none⟩) NB340_324.out _).trans (hHeld.2.1)))))))))))))), ((cell_far (p := ⟨gb324, _, none⟩) NB340_324.out _).trans (((cell_far (p := ⟨gb324, _, none⟩) NB340_324.out _).trans (((cell_far (p := ⟨gb324, _, none⟩) NB340_324.out _).trans (((cell_far (p := ⟨gb324, _, none⟩) NB340_324.out _).trans (((cell_far (p := ⟨gb324, _, none⟩) NB340_324.out _).trans (((cell_far (p := ⟨gb324, _, none⟩) NB340_324.out _).trans (((cell_far (p := ⟨gb324, _, none⟩) NB340_324.out _).trans (hHeld.2.2.1)))))))))))))), ((cell_far (p := ⟨gb324, _, none⟩) NB340_324.out _).trans (((cell_far (p := ⟨gb324, _, none⟩) NB340_324.out _).trans (((cell_far (p := ⟨gb324, _, none⟩) NB340_324.out _).trans (((cell_far (p := ⟨gb324, _, none⟩) NB340_324.out _).trans (((cell_far (p := ⟨gb324, _, none⟩) NB340_324.out _).trans (((cell_far (p := ⟨gb324, _, none⟩) NB340_324.out _).trans (((cell_far (p := ⟨gb324, _, none⟩) NB340_324.out _).trans (hHeld.2.2.2.1)))))))))))))), ((cell_far (p := ⟨gb324, _, none⟩) NB340_324.out _).trans (((cell_far (p := ⟨gb324, _, none⟩) NB340_324.out _).trans (((cell_far (p := ⟨gb324, _, none⟩) NB340_324.out _).trans (((cell_far (p := ⟨gb324, _, none⟩) NB340_324.out _).trans (((cell_far (p := ⟨gb324, _, none⟩) NB340_324.out _).trans (((cell_far (p := ⟨gb324, _, none⟩) NB340_324.out _).trans (((cell_far (p := ⟨gb324, _, none⟩) NB340_324.out _).trans (hHeld.2.2.2.2.1)))))))))))))), ((cell_far (p := ⟨gb324, _, none⟩) NB340_324.out _).trans (((cell_far (p := ⟨gb324, _, none⟩) NB340_324.out _).trans (((cell_far (p := ⟨gb324, _, none⟩) NB340_324.out _).trans (((cell_far (p := ⟨gb324, _, none⟩) NB340_324.out _).trans (((cell_far (p := ⟨gb324, _, none⟩) NB340_324.out _).trans (((cell_far (p := ⟨gb324, _, none⟩) NB340_324.out _).trans (((cell_far (p := ⟨gb324, _, none⟩) NB340_324.out _).trans (hHeld.2.2.2.2.2.1)))))))))))))), ((cell_far (p := ⟨gb324, _, none⟩) NB340_324.out _).trans (((cell_far (p := ⟨gb324, _, none⟩) NB340_324.out _).trans (((cell_far (p := ⟨gb324, _, none⟩) NB340_324.out _).trans (((cell_far (p := ⟨gb324, _, none⟩) NB340_324.out _).trans (((cell_far (p := ⟨gb324, _, none⟩) NB340_324.out _).trans (((cell_far (p := ⟨gb324, _, none⟩) NB340_324.out _).trans (((cell_far (p := ⟨gb324, _, none⟩) NB340_324.out _).trans (hHeld.2.2.2.2.2.2))))))))))))))⟩ (fun hHeld => ?_)
          clear hK K
          refine pu_ HT_ 6 5 (bl 8 127) ?_
          refine pu_ HT_ 7 6 (bl 8 255) ?_
          refine done_ (done_of HT_.out (by kernel_rfl)) ?_
          try go_wp2
          refine bodyPost_ret (results_ctt rfl _ _ gb324 24 #[.int .i64 t330, .int .i64 t331, .string t332, .string t333, .int .i64 t334, .int .i64 t335, .int .i64 t336] (0, 0) _ rfl (by (with_reducible repeat (first | refine blk_drewN ?_ _ | refine blk_drew ?_ | refine blk_alloc ?_ _)); refine blk_put (cs := #[.int .i64 t330, .int .i64 t331, .string t332, .string t333, .int .i64 t334, .int .i64 t335, .int .i64 0]) ?_ 6 _ rfl; (with_reducible repeat (first | refine blk_drewN ?_ _ | refine blk_drew ?_ | refine blk_alloc ?_ _)); refine blk_put (cs := #[.int .i64 t330, .int .i64 t331, .string t332, .string t333, .int .i64 t334, .int .i64 0, .int .i64 0]) ?_ 5 _ rfl; (with_reducible repeat (first | refine blk_drewN ?_ _ | refine blk_drew ?_ | refine blk_alloc ?_ _)); refine blk_put (cs := #[.int .i64 t330, .int .i64 t331, .string t332, .string t333, .int .i64 0, .int .i64 0, .int .i64 0]) ?_ 4 _ rfl; (with_reducible repeat (first | refine blk_drewN ?_ _ | refine blk_drew ?_ | refine blk_alloc ?_ _)); refine blk_put (cs := #[.int .i64 t330, .int .i64 t331, .string t332, .string (⟨#[]⟩ : ByteArray), .int .i64 0, .int .i64 0, .int .i64 0]) ?_ 3 _ rfl; (with_reducible repeat (first | refine blk_drewN ?_ _ | refine blk_drew ?_ | refine blk_alloc ?_ _)); refine blk_put (cs := #[.int .i64 t330, .int .i64 t331, .string (⟨#[]⟩ : ByteArray), .string (⟨#[]⟩ : ByteArray), .int .i64 0, .int .i64 0, .int .i64 0]) ?_ 2 _ rfl; (with_reducible repeat (first | refine blk_drewN ?_ _ | refine blk_drew ?_ | refine blk_alloc ?_ _)); refine blk_put (cs := #[.int .i64 t330, .int .i64 0, .string (⟨#[]⟩ : ByteArray), .string (⟨#[]⟩ : ByteArray), .int .i64 0, .int .i64 0, .int .i64 0]) ?_ 1 _ rfl; (with_reducible repeat (first | refine blk_drewN ?_ _ | refine blk_drew ?_ | refine blk_alloc ?_ _)); refine blk_put (cs := #[.int .i64 0, .int .i64 0, .string (⟨#[]⟩ : ByteArray), .string (⟨#[]⟩ : ByteArray), .int .i64 0, .int .i64 0, .int .i64 0]) ?_ 0 _ rfl; (with_reducible repeat (first | refine blk_drewN ?_ _ | refine blk_drew ?_ | refine blk_alloc ?_ _)); exact BK324.out) Try.underlying24 rfl (by kernel_rfl)) rfl ?_
          exact ⟨er_, hb_⟩
         ·
          rw [if_neg c38] at H
          have c38b0 : ((a1.extract 0 ((t346.size : Int) : Int).toNat).toList == t346.toList) = false := beq_eq_false_iff_ne.mpr c38
          try simp only [Int.toNat_natCast] at c38b0
          have c38b1 : ((a1.extract 0 ((t346.size : Int) : Int).toNat).toList != t346.toList) = true := bne_iff_ne.mpr c38
          try simp only [Int.toNat_natCast] at c38b1
          simp only [Option.some.injEq, Prod.mk.injEq] at H
          obtain ⟨rfl, rfl, rfl, rfl, rfl, rfl, rfl, rfl, rfl⟩ := H
          have hnb52 := NB340_324.out
          have hnc52 := NB324_340.out
          have hcz53_0 := bc0 BK340
          have hcz53_1 := bc1 BK340
          have hcz53_2 := bc2 BK340
          have hcz53_3 := bc3 BK340
          have hcz53_4 := bc4 BK340
          have hcz53_5 := bc5 BK340
          have hcz53_6 := bc6 BK340
          have hfz53_0 := blk_frozen BK340.out 0
          have hfz53_1 := blk_frozen BK340.out 1
          have hfz53_2 := blk_frozen BK340.out 2
          have hfz53_3 := blk_frozen BK340.out 3
          have hfz53_4 := blk_frozen BK340.out 4
          have hfz53_5 := blk_frozen BK340.out 5
          have hfz53_6 := blk_frozen BK340.out 6
          go_wp2_with (first | ((with_reducible refine gate_callee (f := 18) rfl ?_); refine goesL_ (some 36) rfl rfl Try.func18 (by kernel_rfl) rfl #[.slice A0 l0.length c0, .agg #[.int .i64 t330, .int .i64 t331, .string t332, .string t333, .int .i64 t334, .int .i64 t335, .int .i64 t336]] rfl am_ ?_; (with_reducible refine (hopmeshref14_Compress.calls _ _ l0 t330 t331 t332 t333 t334 t335 t336 t346 t347 _ ?side1 ?side2 A30.out).mono ?_); (case side1 => repeat (first | exact (Kd.C_below HR0.out HB.out) | (with_reducible refine Kd.C_alloc ?_ _) | (with_reducible refine Kd.C_drewN ?_ _) | (with_reducible refine Kd.C_drew ?_))); (case side2 => exact HC0.out); rintro e w54 ⟨rfl, hb⟩; refine ⟨_, rfl, ?_⟩; have n0_ := bk_ BK324 hb; have n1_ := bk_ BK340 hb; have n2_ := Aside0.mk (below_step hb_ hb); clear BK324; clear BK340; clear HB; have BK324 := n0_; have BK340 := n1_; have HB := n2_; clear n0_ n1_ n2_; (try clear hb); (try clear hb2); (try clear hk); (try clear hi); have hcz55_0 := bc0 BK324; have hcz55_1 := bc1 BK324; have hcz55_2 := bc2 BK324; have hcz55_3 := bc3 BK324; have hcz55_4 := bc4 BK324; have hcz55_5 := bc5 BK324; have hcz55_6 := bc6 BK324; have hfz55_0 := blk_frozen BK324.out 0; have hfz55_1 := blk_frozen BK324.out 1; have hfz55_2 := blk_frozen BK324.out 2; have hfz55_3 := blk_frozen BK324.out 3; have hfz55_4 := blk_frozen BK324.out 4; have hfz55_5 := blk_frozen BK324.out 5; have hfz55_6 := blk_frozen BK324.out 6))
          refine bodyPost_ret (results_ctt rfl _ _ gb324 24 #[.int .i64 0, .int .i64 0, .string (⟨#[]⟩ : ByteArray), .string (⟨#[]⟩ : ByteArray), .int .i64 0, .int .i64 0, .int .i64 0] (0, 0) _ rfl (by (with_reducible repeat (first | refine blk_drewN ?_ _ | refine blk_drew ?_ | refine blk_alloc ?_ _)); refine blk_put (cs := #[.int .i64 0, .int .i64 0, .string (⟨#[]⟩ : ByteArray), .string (⟨#[]⟩ : ByteArray), .int .i64 0, .int .i64 0, .int .i64 0]) ?_ 6 _ rfl; (with_reducible repeat (first | refine blk_drewN ?_ _ | refine blk_drew ?_ | refine blk_alloc ?_ _)); refine blk_put (cs := #[.int .i64 0, .int .i64 0, .string (⟨#[]⟩ : ByteArray), .string (⟨#[]⟩ : ByteArray), .int .i64 0, .int .i64 0, .int .i64 0]) ?_ 5 _ rfl; (with_reducible repeat (first | refine blk_drewN ?_ _ | refine blk_drew ?_ | refine blk_alloc ?_ _)); refine blk_put (cs := #[.int .i64 0, .int .i64 0, .string (⟨#[]⟩ : ByteArray), .string (⟨#[]⟩ : ByteArray), .int .i64 0, .int .i64 0, .int .i64 0]) ?_ 4 _ rfl; (with_reducible repeat (first | refine blk_drewN ?_ _ | refine blk_drew ?_ | refine blk_alloc ?_ _)); refine blk_put (cs := #[.int .i64 0, .int .i64 0, .string (⟨#[]⟩ : ByteArray), .string (⟨#[]⟩ : ByteArray), .int .i64 0, .int .i64 0, .int .i64 0]) ?_ 3 _ rfl; (with_reducible repeat (first | refine blk_drewN ?_ _ | refine blk_drew ?_ | refine blk_alloc ?_ _)); refine blk_put (cs := #[.int .i64 0, .int .i64 0, .string (⟨#[]⟩ : ByteArray), .string (⟨#[]⟩ : ByteArray), .int .i64 0, .int .i64 0, .int .i64 0]) ?_ 2 _ rfl; (with_reducible repeat (first | refine blk_drewN ?_ _ | refine blk_drew ?_ | refine blk_alloc ?_ _)); refine blk_put (cs := #[.int .i64 0, .int .i64 0, .string (⟨#[]⟩ : ByteArray), .string (⟨#[]⟩ : ByteArray), .int .i64 0, .int .i64 0, .int .i64 0]) ?_ 1 _ rfl; (with_reducible repeat (first | refine blk_drewN ?_ _ | refine blk_drew ?_ | refine blk_alloc ?_ _)); refine blk_put (cs := #[.int .i64 0, .int .i64 0, .string (⟨#[]⟩ : ByteArray), .string (⟨#[]⟩ : ByteArray), .int .i64 0, .int .i64 0, .int .i64 0]) ?_ 0 _ rfl; (with_reducible repeat (first | refine blk_drewN ?_ _ | refine blk_drew ?_ | refine blk_alloc ?_ _)); exact BK324.out) Try.underlying24 rfl (by kernel_rfl)) rfl ?_
          exact ⟨er_, hb_⟩
        ·
         rw [if_neg c37] at H
         exact absurd H (by simp)
       ·
        rw [if_neg c36] at H
        exact absurd H (by simp)
 ·
  rw [if_neg c4] at H
  have c4b0 : (t325 == 0) = false := beq_eq_false_iff_ne.mpr c4
  have c4b1 : (t325 != 0) = true := bne_iff_ne.mpr c4
  simp only [Option.some.injEq, Prod.mk.injEq] at H
  obtain ⟨rfl, rfl, rfl, rfl, rfl, rfl, rfl, rfl, rfl⟩ := H
  go_enter Try.func25, Try.ntmps25
  go_wp2_with (first | ((with_reducible refine gate_dst (N := 4) rfl ?_); refine bx_ 4 #[.int .i64 0, .int .i64 0, .string (⟨#[]⟩ : ByteArray), .string (⟨#[]⟩ : ByteArray), .int .i64 0, .int .i64 0, .int .i64 0] 24 ?_; intro gb324 hg w56 hbox hb; have n0_ := Aside0.mk (below_step hb_ hb); have n1_ := Aside0.mk (hbox); have n2_ := Aside0.mk ((by rw [hg]; exact (below_size hb_) : w.heap.size ≤ gb324)); have n3_ := Aside0.mk ((by rw [hg]; exact (below_size hb_) : w.heap.size ≤ gb324)); clear HB; have HB := n0_; have BK324 := n1_; have GW324 := n2_; have GE324 := n3_; clear n0_ n1_ n2_ n3_; clear hb hbox hg) | ((with_reducible refine gate_callee (f := 23) rfl ?_); refine goesL_ (some 12) rfl rfl Try.func23 (by kernel_rfl) rfl #[.slice A0 l0.length c0] rfl am_ ?_; (with_reducible refine (hopmeshref14_Contexts.calls k _ _ l0 t325 _ ?side1 ?side2 A3.out).mono ?_); (case side1 => repeat (first | exact (Kd.C_below HR0.out HB.out) | (with_reducible refine Kd.C_alloc ?_ _) | (with_reducible refine Kd.C_drewN ?_ _) | (with_reducible refine Kd.C_drew ?_))); (case side2 => exact HC0.out); rintro e w' ⟨rfl, ⟨nd, rfl⟩⟩; refine ⟨_, rfl, ?_⟩; (try (rw [drewN_self w56]; generalize hq_ : World.drewN w56 _ = w56; have n0_ : Aside0 (w56.heap[gb324]? = some (.cells #[.int .i64 0, .int .i64 0, .string (⟨#[]⟩ : ByteArray), .string (⟨#[]⟩ : ByteArray), .int .i64 0, .int .i64 0, .int .i64 0] 24 (0, 0))) := ⟨by rw [← hq_]; exact (bj_ BK324)⟩; have n1_ : Aside0 (Below w.heap.size w w56) := ⟨by rw [← hq_]; exact hb_⟩; clear BK324 HB hq_; have BK324 := n0_; have HB := n1_; clear n0_ n1_)); have hcz57_0 := bc0 BK324; have hcz57_1 := bc1 BK324; have hcz57_2 := bc2 BK324; have hcz57_3 := bc3 BK324; have hcz57_4 := bc4 BK324; have hcz57_5 := bc5 BK324; have hcz57_6 := bc6 BK324; have hfz57_0 := blk_frozen BK324.out 0; have hfz57_1 := blk_frozen BK324.out 1; have hfz57_2 := blk_frozen BK324.out 2; have hfz57_3 := blk_frozen BK324.out 3; have hfz57_4 := blk_frozen BK324.out 4; have hfz57_5 := blk_frozen BK324.out 5; have hfz57_6 := blk_frozen BK324.out 6))
  refine bodyPost_ret (results_ctt rfl _ _ gb324 24 #[.int .i64 0, .int .i64 0, .string (⟨#[]⟩ : ByteArray), .string (⟨#[]⟩ : ByteArray), .int .i64 0, .int .i64 0, .int .i64 0] (0, 0) _ rfl (by (with_reducible repeat (first | refine blk_drewN ?_ _ | refine blk_drew ?_ | refine blk_alloc ?_ _)); refine blk_put (cs := #[.int .i64 0, .int .i64 0, .string (⟨#[]⟩ : ByteArray), .string (⟨#[]⟩ : ByteArray), .int .i64 0, .int .i64 0, .int .i64 0]) ?_ 6 _ rfl; (with_reducible repeat (first | refine blk_drewN ?_ _ | refine blk_drew ?_ | refine blk_alloc ?_ _)); refine blk_put (cs := #[.int .i64 0, .int .i64 0, .string (⟨#[]⟩ : ByteArray), .string (⟨#[]⟩ : ByteArray), .int .i64 0, .int .i64 0, .int .i64 0]) ?_ 5 _ rfl; (with_reducible repeat (first | refine blk_drewN ?_ _ | refine blk_drew ?_ | refine blk_alloc ?_ _)); refine blk_put (cs := #[.int .i64 0, .int .i64 0, .string (⟨#[]⟩ : ByteArray), .string (⟨#[]⟩ : ByteArray), .int .i64 0, .int .i64 0, .int .i64 0]) ?_ 4 _ rfl; (with_reducible repeat (first | refine blk_drewN ?_ _ | refine blk_drew ?_ | refine blk_alloc ?_ _)); refine blk_put (cs := #[.int .i64 0, .int .i64 0, .string (⟨#[]⟩ : ByteArray), .string (⟨#[]⟩ : ByteArray), .int .i64 0, .int .i64 0, .int .i64 0]) ?_ 3 _ rfl; (with_reducible repeat (first | refine blk_drewN ?_ _ | refine blk_drew ?_ | refine blk_alloc ?_ _)); refine blk_put (cs := #[.int .i64 0, .int .i64 0, .string (⟨#[]⟩ : ByteArray), .string (⟨#[]⟩ : ByteArray), .int .i64 0, .int .i64 0, .int .i64 0]) ?_ 2 _ rfl; (with_reducible repeat (first | refine blk_drewN ?_ _ | refine blk_drew ?_ | refine blk_alloc ?_ _)); refine blk_put (cs := #[.int .i64 0, .int .i64 0, .string (⟨#[]⟩ : ByteArray), .string (⟨#[]⟩ : ByteArray), .int .i64 0, .int .i64 0, .int .i64 0]) ?_ 1 _ rfl; (with_reducible repeat (first | refine blk_drewN ?_ _ | refine blk_drew ?_ | refine blk_alloc ?_ _)); refine blk_put (cs := #[.int .i64 0, .int .i64 0, .string (⟨#[]⟩ : ByteArray), .string (⟨#[]⟩ : ByteArray), .int .i64 0, .int .i64 0, .int .i64 0]) ?_ 0 _ rfl; (with_reducible repeat (first | refine blk_drewN ?_ _ | refine blk_drew ?_ | refine blk_alloc ?_ _)); exact BK324.out) Try.underlying24 rfl (by kernel_rfl)) rfl ?_
  exact ⟨er_, hb_⟩

end Go.Proofs.Ytmbbijhppgkdfaa.P14
