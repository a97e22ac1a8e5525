/- conflict.faulty's function literal: whether a margin is heard with the disturbance of a cell at a node. -/
import Derived.Test.YtibgcekekmphoaaP34I
import Derived.Test.YtibgcekekmphoaaP34N
import Derived.Deep.RegionHeld3
namespace Go.Proofs.Ytibgcekekmphoaa.P34
open Go.RowKit Go.Proofs.YtibgcekekmphoaaW.PrintWords Go.Proofs.YtibgcekekmphoaaW.PrintLast Go.Proofs.YtibgcekekmphoaaW.PrintMore
attribute [local go_sem] max2_int min2_int max_two min_two max_three min_three max_four min_four
set_option linter.unusedVariables false
set_option linter.unusedSimpArgs false

set_option maxRecDepth 100000 in
set_option maxHeartbeats 4000000 in
theorem call73 (k : Nat) (B BL BI : Nat) (a0_0 : Int) (A0_1 : Option Addr) (c0_1 : Nat) (l0_1 : List (List Int)) (a0_2 : Int) (a0_3 : Int) (A0_4 : Option Addr) (c0_4 : Nat) (l0_4 : List (S44)) (A0_5 : Option Addr) (c0_5 : Nat) (l0_5 : List Int) (A1 : Option Addr) (c1 : Nat) (l1 : List S36) (a2 a1 nd d : Int) (b : Bool) (w : World) (hr0_1 : Kd.C (Kd.slice 3 (Kd.int .i64)) w A0_1 l0_1.length l0_1) (hc0_1 : l0_1.length ≤ c0_1) (hr0_4 : Kd.C k44 w A0_4 l0_4.length l0_4) (hc0_4 : l0_4.length ≤ c0_4) (hr0_5 : Kd.C (Kd.int .i64) w A0_5 l0_5.length l0_5) (hc0_5 : l0_5.length ≤ c0_5) (hr1 : Kd.C k36 w A1 l1.length l1) (hc1 : l1.length ≤ c1)
    (hB : w.heap[B]? = some (.cells #[.int .i64 a0_0, .slice A0_1 l0_1.length c0_1, .int .i64 a0_2, .int .i64 a0_3, .slice A0_4 l0_4.length c0_4, .slice A0_5 l0_5.length c0_5] 26 (0, 0))) (hL : w.heap[BL]? = some (.cells #[.slice A1 l1.length c1] 27 (0, 0))) (hI : w.heap[BI]? = some (.cells #[.int .i64 a2] 3 (0, 0)))
    (h0 : 0 ≤ a1) (h1 : a1 < (l0_5.length : Int)) (hd : conflict_disturbance.f k a0_0 l0_1 a0_2 a0_3 l0_4 l0_5 l1 a2 nd = some d) (hh : network_Hears.f k a0_0 l0_1 a0_2 a0_3 l0_4 l0_5 (rd l0_5 a1) d = some b) :
    Calls Try.prog 73 #[.int .i64 a1, .int .i64 nd, .pointer (some ⟨B, 0, none⟩), .pointer (some ⟨BL, 0, none⟩), .pointer (some ⟨BI, 0, none⟩)] w fun e w' => e = .returned (.bool b) ∧ Below w.heap.size w w' := by
  have hu26 := Try.underlying26
  obtain ⟨adm, rfl, xm⟩ := Kd.at_int hr0_5 a1 h0 h1
  have HD := Aside0.mk (fun (W : World) (hb : Below w.heap.size w W) => conflict_disturbance.calls k a0_0 A0_1 c0_1 l0_1 a0_2 a0_3 A0_4 c0_4 l0_4 (some adm) c0_5 l0_5 A1 c1 l1 a2 nd d W (Kd.C_below hr0_1 hb) hc0_1 (Kd.C_below hr0_4 hb) hc0_4 (Kd.C_below hr0_5 hb) hc0_5 (Kd.C_below hr1 hb) hc1 hd)
  have HH := Aside0.mk (fun (W : World) (hb : Below w.heap.size w W) => network_Hears.calls k a0_0 A0_1 c0_1 l0_1 a0_2 a0_3 A0_4 c0_4 l0_4 (some adm) c0_5 l0_5 (rd l0_5 a1) d b W (Kd.C_below hr0_1 hb) hc0_1 (Kd.C_below hr0_4 hb) hc0_4 (Kd.C_below hr0_5 hb) hc0_5 hh)
  have z0 := (blk_cell hB 0).trans rfl
  have z1 := (blk_cell hB 1).trans rfl
  have z2 := (blk_cell hB 2).trans rfl
  have z3 := (blk_cell hB 3).trans rfl
  have z4 := (blk_cell hB 4).trans rfl
  have z5 := (blk_cell hB 5).trans rfl
  have zL := (blk_cell hL 0).trans rfl
  have zI := (blk_cell hI 0).trans rfl
  have hn5 := hr0_5.2.1
  generalize rd l0_5 a1 = M at xm HH
  clear hr0_1 hr0_4 hr0_5 hr1 hc0_1 hc0_4 hc0_5 hc1 hB hL hI hd hh
  go_enter Try.func73, Try.ntmps73
  go_wp2_with fail
  have HB0 := Aside0.mk (Below.refl w.heap.size w)
  go_region_held3 (fun w' => w'.cell? ⟨B, 0, none⟩ = some (.int .i64 a0_0) ∧ w'.cell? ⟨B, 1, none⟩ = some (.slice A0_1 l0_1.length c0_1) ∧ w'.cell? ⟨B, 2, none⟩ = some (.int .i64 a0_2) ∧ w'.cell? ⟨B, 3, none⟩ = some (.int .i64 a0_3) ∧ w'.cell? ⟨B, 4, none⟩ = some (.slice A0_4 l0_4.length c0_4) ∧ w'.cell? ⟨B, 5, none⟩ = some (.slice (some adm) l0_5.length c0_5) ∧ w'.cell? (adm.add a1.toNat) = some (.int .i64 M) ∧ w'.cell? ⟨BL, 0, none⟩ = some (.slice A1 l1.length c1) ∧ w'.cell? ⟨BI, 0, none⟩ = some (.int .i64 a2))
    (first | go_keep | (go_split_ands; refine ⟨?_, ?_, ?_, ?_, ?_, ?_, ?_, ?_, ?_⟩ <;> exact (hb9.cell (World.block_lt_of_cell? _ _ (by assumption))).trans (by assumption)) | (go_split_ands; refine ⟨?_, ?_, ?_, ?_, ?_, ?_, ?_, ?_, ?_⟩ <;> exact (hb8.cell (World.block_lt_of_cell? _ _ (by assumption))).trans (by assumption)))
    (first | (go_at_call 39; refine (HD.out _ (by repeat (first | exact Below.refl _ _ | apply below_drew1 | apply pw_below_drewN))).mono ?_; rintro e w8 ⟨rfl, hb8⟩) | (go_at_call 18; refine (HH.out _ (by repeat (first | exact Below.refl _ _ | apply below_drew1 | apply pw_below_drewN | refine below_step ?_ hb8))).mono ?_; rintro e w9 ⟨rfl, hb9⟩))
  have HB9 : Aside0 (Below w.heap.size w w9) := ⟨below_step (below_step (below_drew1 HB0.out) hb8) hb9⟩
  clear hb8 hb9
  go_wp2
  go_ret
  exact ⟨rfl, HB9.out⟩
end Go.Proofs.Ytibgcekekmphoaa.P34
