-- Written by a program of this session (wip/tools) over the kit's print; Lean checks it.
import Derived.Test.YtmbbijhppgkdfaaP140
import Derived.Test.YtmbbijhppgkdfaaP14Hp
namespace Go.Proofs.Ytmbbijhppgkdfaa.P14
open Go.RowKit Go.Proofs.YtmbbijhppgkdfaaW.PrintWords Go.Proofs.YtmbbijhppgkdfaaW.PrintLast Go.Proofs.YtmbbijhppgkdfaaW.PrintMore
attribute [local go_sem] max2_int min2_int max_two min_two max_three min_three max_four min_four   -- for this text's walks alone
set_option linter.unusedVariables false
set_option linter.unusedSimpArgs false

/-! ### compress_find: function 36 -/
mutual
def compress_find.l0 : Nat → List (S26) → ByteArray → Int → List (S26) → Int → Int → Option (Int)
 | 0, _, _, _, _, _, _ => none
 | k + 1, x0, x1, x5, x8, x9, x10 => if x10 < x9 then (if 0 ≤ x10 then (if x10 < (x8.length : Int) then ((strings_HasPrefix.f x1 ((rd_T26 x8 x10).f0)).bind fun t144 => (if t144 = true then (if x5 < 0 then (compress_find.j1 k x0 x1 x5 x10 x8 x9 x10 true) else (if 0 ≤ x5 then (if x5 < (x0.length : Int) then (compress_find.j1 k x0 x1 x5 x10 x8 x9 x10 (decide ((((rd_T26 x8 x10).f0).size : Int) > (((rd_T26 x0 x5).f0).size : Int)))) else (none)) else (none))) else (compress_find.j1 k x0 x1 x5 x10 x8 x9 x10 false))) else (none)) else (none)) else (some x5)
def compress_find.j1 : Nat → List (S26) → ByteArray → Int → Int → List (S26) → Int → Int → Bool → Option (Int)
 | 0, _, _, _, _, _, _, _, _ => none
 | k + 1, x0, x1, x5, x6, x8, x9, x10, x34 => if x34 = true then (compress_find.l0 k x0 x1 x6 x8 x9 (wrap64 (x10 + 1))) else (compress_find.l0 k x0 x1 x5 x8 x9 (wrap64 (x10 + 1)))
end
def compress_find.f (k : Nat) (l0 : List (S26)) (a1 : ByteArray) : Option (Int) := compress_find.l0 k l0 a1 (-1) l0 (l0.length : Int) 0
theorem compress_find.mono_l : ∀ k, (∀ y0 y1 y2 y3 y4 y5, LeO (compress_find.l0 k y0 y1 y2 y3 y4 y5) (compress_find.l0 (k + 1) y0 y1 y2 y3 y4 y5)) ∧ (∀ y0 y1 y2 y3 y4 y5 y6 y7, LeO (compress_find.j1 k y0 y1 y2 y3 y4 y5 y6 y7) (compress_find.j1 (k + 1) y0 y1 y2 y3 y4 y5 y6 y7))
 | 0 => ⟨fun _ _ _ _ _ _ r h => by simp [compress_find.l0] at h, fun _ _ _ _ _ _ _ _ r h => by simp [compress_find.j1] at h⟩
 | k + 1 => by
  obtain ⟨ih0, ih1⟩ := compress_find.mono_l k
  refine ⟨?_, ?_⟩
  ·
   intro y0 y1 y2 y3 y4 y5
   unfold compress_find.l0
   repeat' first
   | (with_reducible exact ih0 _ _ _ _ _ _)
   | (with_reducible exact ih1 _ _ _ _ _ _ _ _)
   | (with_reducible exact LeO.refl _)
   | (with_reducible exact LeO.none _)
   | (with_reducible refine LeO.ite ?_ ?_)
   | (with_reducible refine LeO.bind ?_ (fun _ => ?_))
   | exact ih0 _ _ _ _ _ _
   | exact ih1 _ _ _ _ _ _ _ _
   | exact LeO.none _
   | refine LeO.ite ?_ ?_
   | refine LeO.bind ?_ (fun _ => ?_)
  ·
   intro y0 y1 y2 y3 y4 y5 y6 y7
   unfold compress_find.j1
   repeat' first
   | (with_reducible exact ih0 _ _ _ _ _ _)
   | (with_reducible exact ih1 _ _ _ _ _ _ _ _)
   | (with_reducible exact LeO.refl _)
   | (with_reducible exact LeO.none _)
   | (with_reducible refine LeO.ite ?_ ?_)
   | (with_reducible refine LeO.bind ?_ (fun _ => ?_))
   | exact ih0 _ _ _ _ _ _
   | exact ih1 _ _ _ _ _ _ _ _
   | exact LeO.none _
   | refine LeO.ite ?_ ?_
   | refine LeO.bind ?_ (fun _ => ?_)
theorem compress_find.mono : ∀ a0 a1 k, LeO (compress_find.f k a0 a1) (compress_find.f (k + 1) a0 a1) := by
 intro a0 a1 k
 obtain ⟨ih0, ih1⟩ := compress_find.mono_l k
 unfold compress_find.f
 repeat' first
   | (with_reducible exact ih0 _ _ _ _ _ _)
   | (with_reducible exact ih1 _ _ _ _ _ _ _ _)
   | (with_reducible exact LeO.refl _)
   | (with_reducible exact LeO.none _)
   | (with_reducible refine LeO.ite ?_ ?_)
   | (with_reducible refine LeO.bind ?_ (fun _ => ?_))
   | exact ih0 _ _ _ _ _ _
   | exact ih1 _ _ _ _ _ _ _ _
   | exact LeO.none _
   | refine LeO.ite ?_ ?_
   | refine LeO.bind ?_ (fun _ => ?_)
set_option maxHeartbeats 8000000 in
set_option maxRecDepth 100000 in
theorem compress_find.calls (k : Nat) (A0 : Option Addr) (c0 : Nat) (l0 : List (S26)) (a1 : ByteArray) (r : Int) (w : World) (hr0 : Kd.C k26 w A0 l0.length l0) (hc0 : l0.length ≤ c0) (h : compress_find.f k l0 a1 = some r) :
  Calls Try.prog 36 #[.slice A0 l0.length c0, .string a1] w fun e w' => e = .returned (.int .i64 r) ∧ Below w.heap.size w w' := by
 have hu26 := Try.underlying26
 have HR0 := Aside0.mk hr0
 have HC0 := Aside0.mk hc0
 clear hr0 hc0
 have HB := Aside0.mk (Below.refl w.heap.size w)
 have H : (compress_find.l0 k l0 a1 (-1) l0 (l0.length : Int) 0) = some r := h
 clear h
 have H' := Aside0.mk H
 clear H
 go_enter Try.func36, Try.ntmps36
 go_wp2
 repeat (go_quiet (fail); try go_wp2)
 go_loopg [5, 10] k (fun kq v5 v10 w' => ∃ (x5_1 : Int) (x10_1 : Int), v5 = .int .i64 x5_1 ∧ v10 = .int .i64 x10_1 ∧ Aside0 (compress_find.l0 kq l0 a1 x5_1 l0 (l0.length : Int) x10_1 = some r) ∧ Aside0 (kq ≤ k) ∧ Aside0 (Below w.heap.size w w'))
 case atStart => exact ⟨((-1)), (0), rl_, rl_, H', ⟨Nat.le_refl _⟩, ⟨hb_⟩⟩
 case round =>
  clear H'
  try clear p2
  (repeat clear HB)
  obtain ⟨x5_1, x10_1, rfl, rfl, HA, HK1, HB⟩ := hrel
  cases gk with
  | zero => exact absurd HA.out (by simp [compress_find.l0])
  | succ k1 =>
   have H := HA.out
   clear HA
   simp only [compress_find.l0] at H
   by_cases c3 : x10_1 < (l0.length : Int)
   ·
    rw [if_pos c3] at H
    have c3b0 : decide (x10_1 < (l0.length : Int)) = true := decide_eq_true c3
    clear c3
    by_cases c4 : 0 ≤ x10_1
    ·
     rw [if_pos c4] at H
     have c4b0 : decide (0 ≤ x10_1) = true := decide_eq_true c4
     clear c4
     by_cases c5 : x10_1 < (l0.length : Int)
     ·
      rw [if_pos c5] at H
      have c5b0 : decide (x10_1 < (l0.length : Int)) = true := decide_eq_true c5
      clear c5
      have HC6 := Aside0.mk H
      clear H
      have p142 : 0 ≤ (x10_1 : Int) := of_decide_eq_true (by assumption)
      have q142 : x10_1 < (l0.length : Int) := of_decide_eq_true (by assumption)
      obtain ⟨ad142, e142, hx142_0⟩ := at_T26 HR0.out x10_1 p142 q142
      cases e142
      replace hx142_0 := (HB.out.cell (World.block_lt_of_cell? w _ hx142_0)).trans hx142_0
      replace p142 := eq_true p142
      replace q142 := eq_true q142
      go_upto_region 5 with (first | ((with_reducible refine gate_dst (N := 7) rfl ?_); refine bx_ 7 #[.string (⟨#[]⟩ : ByteArray)] 26 ?_; intro gb143 hg w7 hbox hb; have n0_ := Aside0.mk (below_step hb_ hb); have n1_ := Aside0.mk (hbox); have n2_ := Aside0.mk ((by rw [hg]; exact (below_size hb_) : w.heap.size ≤ gb143)); have n3_ := Aside0.mk ((by rw [hg]; exact (below_size hb_) : w.heap.size ≤ gb143)); clear HB; have HB := n0_; have BK143 := n1_; have GW143 := n2_; have GE143 := n3_; clear n0_ n1_ n2_ n3_; clear hb hbox hg; have hcz8_0 := bc0 BK143; have hfz8_0 := blk_frozen BK143.out 0))
      repeat (go_quiet (first | ((with_reducible refine gate_dst (N := 7) rfl ?_); refine bx_ 7 #[.string (⟨#[]⟩ : ByteArray)] 26 ?_; intro gb143 hg w7 hbox hb; have n0_ := Aside0.mk (below_step hb_ hb); have n1_ := Aside0.mk (hbox); have n2_ := Aside0.mk ((by rw [hg]; exact (below_size hb_) : w.heap.size ≤ gb143)); have n3_ := Aside0.mk ((by rw [hg]; exact (below_size hb_) : w.heap.size ≤ gb143)); clear HB; have HB := n0_; have BK143 := n1_; have GW143 := n2_; have GE143 := n3_; clear n0_ n1_ n2_ n3_; clear hb hbox hg; have hcz8_0 := bc0 BK143; have hfz8_0 := blk_frozen BK143.out 0)); go_upto_region 5 with (first | ((with_reducible refine gate_dst (N := 7) rfl ?_); refine bx_ 7 #[.string (⟨#[]⟩ : ByteArray)] 26 ?_; intro gb143 hg w7 hbox hb; have n0_ := Aside0.mk (below_step hb_ hb); have n1_ := Aside0.mk (hbox); have n2_ := Aside0.mk ((by rw [hg]; exact (below_size hb_) : w.heap.size ≤ gb143)); have n3_ := Aside0.mk ((by rw [hg]; exact (below_size hb_) : w.heap.size ≤ gb143)); clear HB; have HB := n0_; have BK143 := n1_; have GW143 := n2_; have GE143 := n3_; clear n0_ n1_ n2_ n3_; clear hb hbox hg; have hcz8_0 := bc0 BK143; have hfz8_0 := blk_frozen BK143.out 0)))
      (try simp only [Act.put, List.setIfInBounds_toArray, List.set_cons_zero, List.set_cons_succ])
      go_cut [34] (fun v34 wc => ∃ (kq : Nat) (x34_5 : Bool), v34 = .bool x34_5 ∧ Aside0 (compress_find.j1 kq l0 a1 x5_1 x10_1 l0 (l0.length : Int) x10_1 x34_5 = some r) ∧ Aside0 (kq ≤ k1) ∧ Aside0 (wc.heap[gb143]? = some (.cells #[.string ((rd_T26 l0 x10_1).f0)] 26 (0, 0))) ∧ Aside0 (Below w.heap.size w wc))
      case first =>
       have H := HC6.out
       clear HC6
       replace H := Option.bind_eq_some_iff.mp H
       obtain ⟨t144, A90, H⟩ := H
       replace H : (if t144 = true then (if x5_1 < 0 then (compress_find.j1 k1 l0 a1 x5_1 x10_1 l0 (l0.length : Int) x10_1 true) else (if 0 ≤ x5_1 then (if x5_1 < (l0.length : Int) then (compress_find.j1 k1 l0 a1 x5_1 x10_1 l0 (l0.length : Int) x10_1 (decide ((((rd_T26 l0 x10_1).f0).size : Int) > (((rd_T26 l0 x5_1).f0).size : Int)))) else (none)) else (none))) else (compress_find.j1 k1 l0 a1 x5_1 x10_1 l0 (l0.length : Int) x10_1 false)) = some r := H
       have A9 := Aside0.mk A90
       clear A90
       by_cases c10 : t144 = true
       ·
        subst c10
        have H1 : (if x5_1 < 0 then (compress_find.j1 k1 l0 a1 x5_1 x10_1 l0 (l0.length : Int) x10_1 true) else (if 0 ≤ x5_1 then (if x5_1 < (l0.length : Int) then (compress_find.j1 k1 l0 a1 x5_1 x10_1 l0 (l0.length : Int) x10_1 (decide ((((rd_T26 l0 x10_1).f0).size : Int) > (((rd_T26 l0 x5_1).f0).size : Int)))) else (none)) else (none))) = some r := by rw [if_pos rfl] at H; exact H
        clear H
        have H := H1
        clear H1
        by_cases c11 : x5_1 < 0
        ·
         rw [if_pos c11] at H
         have c11b0 : decide (x5_1 < 0) = true := decide_eq_true c11
         clear c11
         (first | rw [c11b0] | (simp only [i64_w, i32_w]; rw [c11b0]) | skip)
         have H' := Aside0.mk H
         clear H
         have hcz12_0 := bc0 BK143
         have hfz12_0 := blk_frozen BK143.out 0
         go_wp2_with (first | (go_at_call 71; (with_reducible refine (strings_HasPrefix.calls a1 ((rd_T26 l0 x10_1).f0) true _ A9.out).mono ?_); rintro e w' ⟨rfl, ⟨nd, rfl⟩⟩; (try first | exact ⟨rfl, _, World.drewN_drewN _ _ _⟩ | exact ⟨rfl, _, Eq.trans (World.drewN_drewN _ _ _) (congrArg (World.drewN _) (Nat.add_assoc _ _ _))⟩)))
         repeat (go_quiet (first | (go_at_call 71; (with_reducible refine (strings_HasPrefix.calls a1 ((rd_T26 l0 x10_1).f0) true _ A9.out).mono ?_); rintro e w' ⟨rfl, ⟨nd, rfl⟩⟩; (try first | exact ⟨rfl, _, World.drewN_drewN _ _ _⟩ | exact ⟨rfl, _, Eq.trans (World.drewN_drewN _ _ _) (congrArg (World.drewN _) (Nat.add_assoc _ _ _))⟩))); try go_wp2_with (first | (go_at_call 71; (with_reducible refine (strings_HasPrefix.calls a1 ((rd_T26 l0 x10_1).f0) true _ A9.out).mono ?_); rintro e w' ⟨rfl, ⟨nd, rfl⟩⟩; (try first | exact ⟨rfl, _, World.drewN_drewN _ _ _⟩ | exact ⟨rfl, _, Eq.trans (World.drewN_drewN _ _ _) (congrArg (World.drewN _) (Nat.add_assoc _ _ _))⟩))))
         go_meet
         case rel => exact ⟨_, (true), rl_, H', ⟨by have := HK1.out; first | omega | exact Nat.le_refl _⟩, ⟨by (with_reducible repeat (first | refine blk_drewN ?_ _ | refine blk_drew ?_ | refine blk_alloc ?_ _)); refine blk_put (cs := #[.string (⟨#[]⟩ : ByteArray)]) ?_ 0 _ rfl; (with_reducible repeat (first | refine blk_drewN ?_ _ | refine blk_drew ?_ | refine blk_alloc ?_ _)); exact BK143.out⟩, ⟨hb_⟩⟩
        ·
         rw [if_neg c11] at H
         have c11b0 : decide (x5_1 < 0) = false := decide_eq_false c11
         clear c11
         (first | rw [c11b0] | (simp only [i64_w, i32_w]; rw [c11b0]) | skip)
         by_cases c13 : 0 ≤ x5_1
         ·
          rw [if_pos c13] at H
          have c13b0 : decide (0 ≤ x5_1) = true := decide_eq_true c13
          clear c13
          by_cases c14 : x5_1 < (l0.length : Int)
          ·
           rw [if_pos c14] at H
           have c14b0 : decide (x5_1 < (l0.length : Int)) = true := decide_eq_true c14
           clear c14
           have H' := Aside0.mk H
           clear H
           have hcz15_0 := bc0 BK143
           have hfz15_0 := blk_frozen BK143.out 0
           go_wp2_with (first | (go_at_call 71; (with_reducible refine (strings_HasPrefix.calls a1 ((rd_T26 l0 x10_1).f0) true _ A9.out).mono ?_); rintro e w' ⟨rfl, ⟨nd, rfl⟩⟩; (try first | exact ⟨rfl, _, World.drewN_drewN _ _ _⟩ | exact ⟨rfl, _, Eq.trans (World.drewN_drewN _ _ _) (congrArg (World.drewN _) (Nat.add_assoc _ _ _))⟩); have p145 : 0 ≤ (x5_1 : Int) := of_decide_eq_true (by assumption); have q145 : x5_1 < (l0.length : Int) := of_decide_eq_true (by assumption); obtain ⟨ad145, e145, hx145_0⟩ := at_T26 HR0.out x5_1 p145 q145; obtain rfl : ad142 = ad145 := (by injection e145); have hn145_0 : ad142.block ≠ gb143 := Nat.ne_of_lt (Nat.lt_of_lt_of_le (by have := World.block_lt_of_cell? _ _ hx145_0; first | rwa [add_block] at this | exact this) GW143.out); replace hx145_0 := (HB.out.cell (World.block_lt_of_cell? w _ hx145_0)).trans hx145_0; replace hx145_0 := (cell_far (p := ⟨gb143, 0, none⟩) (by first | (rw [add_block]; exact hn145_0) | (show (Addr.add _ _).block ≠ _; rw [add_block]; exact hn145_0) | exact hn145_0) (.string ((rd_T26 l0 x10_1).f0))).trans hx145_0; (try have hy145_0 := fun (n_ : Nat) => (show (((w7.drewN n_).setCell ⟨gb143, 0, none⟩ (.string ((rd_T26 l0 x10_1).f0)))).cell? _ = some _ from hx145_0)); clear hn145_0; replace p145 := eq_true p145; replace q145 := eq_true q145))
           repeat (go_quiet (first | (go_at_call 71; (with_reducible refine (strings_HasPrefix.calls a1 ((rd_T26 l0 x10_1).f0) true _ A9.out).mono ?_); rintro e w' ⟨rfl, ⟨nd, rfl⟩⟩; (try first | exact ⟨rfl, _, World.drewN_drewN _ _ _⟩ | exact ⟨rfl, _, Eq.trans (World.drewN_drewN _ _ _) (congrArg (World.drewN _) (Nat.add_assoc _ _ _))⟩); have p145 : 0 ≤ (x5_1 : Int) := of_decide_eq_true (by assumption); have q145 : x5_1 < (l0.length : Int) := of_decide_eq_true (by assumption); obtain ⟨ad145, e145, hx145_0⟩ := at_T26 HR0.out x5_1 p145 q145; obtain rfl : ad142 = ad145 := (by injection e145); have hn145_0 : ad142.block ≠ gb143 := Nat.ne_of_lt (Nat.lt_of_lt_of_le (by have := World.block_lt_of_cell? _ _ hx145_0; first | rwa [add_block] at this | exact this) GW143.out); replace hx145_0 := (HB.out.cell (World.block_lt_of_cell? w _ hx145_0)).trans hx145_0; replace hx145_0 := (cell_far (p := ⟨gb143, 0, none⟩) (by first | (rw [add_block]; exact hn145_0) | (show (Addr.add _ _).block ≠ _; rw [add_block]; exact hn145_0) | exact hn145_0) (.string ((rd_T26 l0 x10_1).f0))).trans hx145_0; (try have hy145_0 := fun (n_ : Nat) => (show (((w7.drewN n_).setCell ⟨gb143, 0, none⟩ (.string ((rd_T26 l0 x10_1).f0)))).cell? _ = some _ from hx145_0)); clear hn145_0; replace p145 := eq_true p145; replace q145 := eq_true q145)); try go_wp2_with (first | (go_at_call 71; (with_reducible refine (strings_HasPrefix.calls a1 ((rd_T26 l0 x10_1).f0) true _ A9.out).mono ?_); rintro e w' ⟨rfl, ⟨nd, rfl⟩⟩; (try first | exact ⟨rfl, _, World.drewN_drewN _ _ _⟩ | exact ⟨rfl, _, Eq.trans (World.drewN_drewN _ _ _) (congrArg (World.drewN _) (Nat.add_assoc _ _ _))⟩); have p145 : 0 ≤ (x5_1 : Int) := of_decide_eq_true (by assumption); have q145 : x5_1 < (l0.length : Int) := of_decide_eq_true (by assumption); obtain ⟨ad145, e145, hx145_0⟩ := at_T26 HR0.out x5_1 p145 q145; obtain rfl : ad142 = ad145 := (by injection e145); have hn145_0 : ad142.block ≠ gb143 := Nat.ne_of_lt (Nat.lt_of_lt_of_le (by have := World.block_lt_of_cell? _ _ hx145_0; first | rwa [add_block] at this | exact this) GW143.out); replace hx145_0 := (HB.out.cell (World.block_lt_of_cell? w _ hx145_0)).trans hx145_0; replace hx145_0 := (cell_far (p := ⟨gb143, 0, none⟩) (by first | (rw [add_block]; exact hn145_0) | (show (Addr.add _ _).block ≠ _; rw [add_block]; exact hn145_0) | exact hn145_0) (.string ((rd_T26 l0 x10_1).f0))).trans hx145_0; (try have hy145_0 := fun (n_ : Nat) => (show (((w7.drewN n_).setCell ⟨gb143, 0, none⟩ (.string ((rd_T26 l0 x10_1).f0)))).cell? _ = some _ from hx145_0)); clear hn145_0; replace p145 := eq_true p145; replace q145 := eq_true q145)))
           go_meet
           case rel => exact ⟨_, (decide ((((rd_T26 l0 x10_1).f0).size : Int) > (((rd_T26 l0 x5_1).f0).size : Int))), rl_, H', ⟨by have := HK1.out; first | omega | exact Nat.le_refl _⟩, ⟨by (with_reducible repeat (first | refine blk_drewN ?_ _ | refine blk_drew ?_ | refine blk_alloc ?_ _)); refine blk_put (cs := #[.string (⟨#[]⟩ : ByteArray)]) ?_ 0 _ rfl; (with_reducible repeat (first | refine blk_drewN ?_ _ | refine blk_drew ?_ | refine blk_alloc ?_ _)); exact BK143.out⟩, ⟨hb_⟩⟩
          ·
           rw [if_neg c14] at H
           exact absurd H (by simp)
         ·
          rw [if_neg c13] at H
          exact absurd H (by simp)
       ·
        replace c10 := Bool.eq_false_iff.mpr c10
        subst c10
        have H1 : (compress_find.j1 k1 l0 a1 x5_1 x10_1 l0 (l0.length : Int) x10_1 false) = some r := by rw [if_neg (show ¬ (false = true) by decide)] at H; exact H
        clear H
        have H := H1
        clear H1
        have H' := Aside0.mk H
        clear H
        have hcz16_0 := bc0 BK143
        have hfz16_0 := blk_frozen BK143.out 0
        go_wp2_with (first | (go_at_call 71; (with_reducible refine (strings_HasPrefix.calls a1 ((rd_T26 l0 x10_1).f0) false _ A9.out).mono ?_); rintro e w' ⟨rfl, ⟨nd, rfl⟩⟩; (try first | exact ⟨rfl, _, World.drewN_drewN _ _ _⟩ | exact ⟨rfl, _, Eq.trans (World.drewN_drewN _ _ _) (congrArg (World.drewN _) (Nat.add_assoc _ _ _))⟩)))
        repeat (go_quiet (first | (go_at_call 71; (with_reducible refine (strings_HasPrefix.calls a1 ((rd_T26 l0 x10_1).f0) false _ A9.out).mono ?_); rintro e w' ⟨rfl, ⟨nd, rfl⟩⟩; (try first | exact ⟨rfl, _, World.drewN_drewN _ _ _⟩ | exact ⟨rfl, _, Eq.trans (World.drewN_drewN _ _ _) (congrArg (World.drewN _) (Nat.add_assoc _ _ _))⟩))); try go_wp2_with (first | (go_at_call 71; (with_reducible refine (strings_HasPrefix.calls a1 ((rd_T26 l0 x10_1).f0) false _ A9.out).mono ?_); rintro e w' ⟨rfl, ⟨nd, rfl⟩⟩; (try first | exact ⟨rfl, _, World.drewN_drewN _ _ _⟩ | exact ⟨rfl, _, Eq.trans (World.drewN_drewN _ _ _) (congrArg (World.drewN _) (Nat.add_assoc _ _ _))⟩))))
        go_meet
        case rel => exact ⟨_, (false), rl_, H', ⟨by have := HK1.out; first | omega | exact Nat.le_refl _⟩, ⟨by (with_reducible repeat (first | refine blk_drewN ?_ _ | refine blk_drew ?_ | refine blk_alloc ?_ _)); refine blk_put (cs := #[.string (⟨#[]⟩ : ByteArray)]) ?_ 0 _ rfl; (with_reducible repeat (first | refine blk_drewN ?_ _ | refine blk_drew ?_ | refine blk_alloc ?_ _)); exact BK143.out⟩, ⟨hb_⟩⟩
      case rest =>
       clear HC6
       try clear c1; try clear p1; try clear q1; try clear hx1; try clear p2; try clear c3; try clear c3b0; try clear c4; try clear c4b0; try clear c5; try clear c5b0; try clear c10; try clear c11; try clear c11b0; try clear c13; try clear c13b0; try clear c14; try clear c14b0; try clear p14; try clear q14; try clear hx14; try clear hcz12_0; try clear hcz15_0; try clear hcz16_0; try clear hcz8_0; try clear hfz12_0; try clear hfz15_0; try clear hfz16_0; try clear hfz8_0; try clear hx142_0; try clear hx145_0; try clear p142; try clear p145; try clear p2; try clear q142; try clear q145
       (repeat clear BK143); (repeat clear HB)
       obtain ⟨kq, x34_5, rfl, HA, HJ5, BK143, HB⟩ := hcut
       cases kq with
       | zero => exact absurd HA.out (by simp [compress_find.j1])
       | succ kj5 =>
        have H := HA.out
        clear HA
        simp only [compress_find.j1] at H
        by_cases c17 : x34_5 = true
        ·
         subst c17
         have H1 : (compress_find.l0 kj5 l0 a1 x10_1 l0 (l0.length : Int) (wrap64 (x10_1 + 1))) = some r := by rw [if_pos rfl] at H; exact H
         clear H
         have H := H1
         clear H1
         have H' := Aside0.mk H
         clear H
         go_wp2
         repeat (go_quiet (fail); try go_wp2)
         go_roundg kj5
         case measure => have := HK1.out; have := HJ5.out; omega
         case rel => exact ⟨(x10_1), (wrap64 (x10_1 + 1)), rl_, rl_, H', ⟨by have := HK1.out; have := HJ5.out; omega⟩, ⟨hb_⟩⟩
        ·
         replace c17 := Bool.eq_false_iff.mpr c17
         subst c17
         have H1 : (compress_find.l0 kj5 l0 a1 x5_1 l0 (l0.length : Int) (wrap64 (x10_1 + 1))) = some r := by rw [if_neg (show ¬ (false = true) by decide)] at H; exact H
         clear H
         have H := H1
         clear H1
         have H' := Aside0.mk H
         clear H
         go_wp2
         repeat (go_quiet (fail); try go_wp2)
         go_roundg kj5
         case measure => have := HK1.out; have := HJ5.out; omega
         case rel => exact ⟨(x5_1), (wrap64 (x10_1 + 1)), rl_, rl_, H', ⟨by have := HK1.out; have := HJ5.out; omega⟩, ⟨hb_⟩⟩
     ·
      rw [if_neg c5] at H
      exact absurd H (by simp)
    ·
     rw [if_neg c4] at H
     exact absurd H (by simp)
   ·
    rw [if_neg c3] at H
    have c3b0 : decide (x10_1 < (l0.length : Int)) = false := decide_eq_false c3
    clear c3
    obtain rfl := Option.some.inj H
    go_wp2
    repeat (go_quiet (fail); try go_wp2)
    go_ret
    exact ⟨er_, hb_⟩

end Go.Proofs.Ytmbbijhppgkdfaa.P14
