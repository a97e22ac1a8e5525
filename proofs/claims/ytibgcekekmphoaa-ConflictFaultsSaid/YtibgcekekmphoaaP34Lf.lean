-- Written by a program of this session (wip/tools) over the kit's print; Lean checks it.
import Derived.Test.YtibgcekekmphoaaP340
import Derived.Test.YtibgcekekmphoaaP34A
import Derived.Test.YtibgcekekmphoaaP34G
import Derived.Test.YtibgcekekmphoaaP34B
import Derived.Test.YtibgcekekmphoaaP34Tg
import Derived.Test.YtibgcekekmphoaaGawake
namespace Go.Proofs.Ytibgcekekmphoaa.P34
open Go.RowKit Go.Proofs.YtibgcekekmphoaaW.PrintWords Go.Proofs.YtibgcekekmphoaaW.PrintLast Go.Proofs.YtibgcekekmphoaaW.PrintMore
attribute [local go_sem] max2_int min2_int max_two min_two max_three min_three max_four min_four   -- for this text's walks alone
set_option linter.unusedVariables false
set_option linter.unusedSimpArgs false

/-! ### hopmeshref34_Cells: function 50 -/
def hopmeshref34_Cells.l0 : Nat → List (S44) → List (S36) → Int → Option ((List (S36)))
 | 0, _, _, _ => none
 | k + 1, x0, x3, x4 => if x4 < (x0.length : Int) then (if 0 ≤ x4 then (if x3.length < 3518437208883 then (hopmeshref34_Cells.l0 k x0 (x3 ++ [(⟨0, 0, (rd_T44 x0 x4).f0, (rd_T44 x0 x4).f1, 0⟩ : S36)]) (wrap64 (x4 + 1))) else (none)) else (none)) else (some x3)
def hopmeshref34_Cells.f (k : Nat) (l0 : List (S44)) : Option ((List (S36))) := hopmeshref34_Cells.l0 k l0 (([] : List (S36))) 0
theorem hopmeshref34_Cells.mono_l : ∀ k, (∀ y0 y1 y2, LeO (hopmeshref34_Cells.l0 k y0 y1 y2) (hopmeshref34_Cells.l0 (k + 1) y0 y1 y2))
 | 0 => fun _ _ _ r h => by simp [hopmeshref34_Cells.l0] at h
 | k + 1 => by
  have ih0 := hopmeshref34_Cells.mono_l k
  ·
   intro y0 y1 y2
   unfold hopmeshref34_Cells.l0
   repeat' first
   | (with_reducible exact ih0 _ _ _)
   | (with_reducible exact LeO.refl _)
   | (with_reducible exact LeO.none _)
   | (with_reducible refine LeO.ite ?_ ?_)
   | (with_reducible refine LeO.bind ?_ (fun _ => ?_))
   | exact ih0 _ _ _
   | exact LeO.none _
   | refine LeO.ite ?_ ?_
   | refine LeO.bind ?_ (fun _ => ?_)
theorem hopmeshref34_Cells.mono : ∀ a0 k, LeO (hopmeshref34_Cells.f k a0) (hopmeshref34_Cells.f (k + 1) a0) := by
 intro a0 k
 have ih0 := hopmeshref34_Cells.mono_l k
 unfold hopmeshref34_Cells.f
 repeat' first
   | (with_reducible exact ih0 _ _ _)
   | (with_reducible exact LeO.refl _)
   | (with_reducible exact LeO.none _)
   | (with_reducible refine LeO.ite ?_ ?_)
   | (with_reducible refine LeO.bind ?_ (fun _ => ?_))
   | exact ih0 _ _ _
   | exact LeO.none _
   | refine LeO.ite ?_ ?_
   | refine LeO.bind ?_ (fun _ => ?_)
def hopmeshref34_Cells.T5 : Bool × List (List Nat × List Nat) := (true, [([], []), ([], []), ([], []), ([1, 2], [1, 2]), ([3], [3]), ([4], [4]), ([], []), ([], []), ([6, 7], [6, 7]), ([8], [8]), ([9], [9]), ([5, 10], [5, 10]), ([11], [11]), ([0, 12], [0, 12]), ([13, 13, 0, 1, 2, 3, 4, 5, 6, 7, 8, 9, 10, 11, 12, 13], [0, 13])])
def hopmeshref34_Cells.B5 : List Nat := [0, 0, 0, 6, 14, 30, 0, 0, 192, 448, 960, 2046, 4094, 8191, 16383]
theorem hopmeshref34_Cells.tab5 : rtab .any (opsOf Try.f50 5) = hopmeshref34_Cells.T5 := by kernel_rfl
theorem hopmeshref34_Cells.bits5 : waitsOk hopmeshref34_Cells.T5.2 hopmeshref34_Cells.B5 = true := by kernel_rfl
set_option maxHeartbeats 8000000 in
set_option maxRecDepth 100000 in
theorem hopmeshref34_Cells.calls (k : Nat) (A0 : Option Addr) (c0 : Nat) (l0 : List (S44)) (r : List (S36)) (w : World) (hr0 : Kd.C k44 w A0 l0.length l0) (hc0 : l0.length ≤ c0) (h : hopmeshref34_Cells.f k l0 = some r) :
  Calls Try.prog 50 #[.slice A0 l0.length c0] w fun e w' => ∃ v0_ : Value, e = .returned (v0_) ∧ Kd.R k36 36 w' w.heap.size (fun _ => True) v0_ r ∧ Below w.heap.size w w' := by
 have hu36 := Try.underlying36
 have HR0 := Aside0.mk hr0
 have HC0 := Aside0.mk hc0
 clear hr0 hc0
 have HB := Aside0.mk (Below.refl w.heap.size w)
 have H : (hopmeshref34_Cells.l0 k l0 (([] : List (S36))) 0) = some r := h
 clear h
 obtain ⟨y314, hy314⟩ : ∃ y_ : List (S36), y_ = (([] : List (S36))) := ⟨_, rfl⟩
 replace H : (hopmeshref34_Cells.l0 k l0 y314 0) = some r := by first | (rw [hy314]; with_reducible exact H) | (have H2_ := (Option.bind_some _ _).symm.trans H; rw [hy314]; with_reducible exact H2_) | (have H2_ := (Option.bind_some _ _).symm.trans H; with_reducible exact H2_) | with_reducible exact H | (rw [hy314]; exact H) | exact H
 have Ny314 := Aside0.mk hy314
 clear hy314
 have H' := Aside0.mk H
 clear H
 go_enter Try.func50, Try.ntmps50
 go_wp2_with (first | ((with_reducible refine gate_dst (N := 5) rfl ?_); refine Kd.R_lit k36 _ 36 ?hg (N := 5) ?hd (xs := ([] : List (S36))) (inner := []) (ok := fun _ => True) (okp := fun _ => True) ?hr ?hp (fun _ hk => hk) trivial (Below.refl _ _) (Nat.le_refl _) (by simp) ?_; (case hd => rfl); (case hg => rfl); (case hr => first | (go_simp; done) | (go_simp; rfl)); (case hp => exact (Reps.none _ _)); intro v315 w2 ho3 hb hg_ hnew_; clear hg_ hnew_; (first | rw [← Ny314.out] at ho3 | (simp only [Int.reduceToNat] at ho3; rw [← Ny314.out] at ho3)); have n0_ := Aside0.mk (Kd.R_lower ho3 (below_size (by repeat (first | (with_reducible first | exact HB.out | apply below_alloc | apply pw_below_drewN | apply below_drew1) | exact HB.out)))); have n1_ := Aside0.mk (below_step (by repeat (first | (with_reducible first | exact HB.out | apply below_alloc | apply pw_below_drewN | apply below_drew1) | exact HB.out)) hb); clear HB; have HO316 := n0_; have HB := n1_; clear n0_ n1_; clear hb ho3))
 go_loopg [3, 4] k (fun kq v3 v4 w' => ∃ (x3_1 : List (S36)) (x4_1 : Int), v4 = .int .i64 x4_1 ∧ Aside0 (hopmeshref34_Cells.l0 kq l0 x3_1 x4_1 = some r) ∧ Aside0 (kq ≤ k) ∧ Aside0 (Kd.R k36 36 w' w.heap.size (fun _ => True) v3 x3_1) ∧ Aside0 (Below w.heap.size w w'))
 case atStart => exact ⟨(y314), (0), (by first | rfl | (simp; done) | (simp [*]; done)), H', ⟨Nat.le_refl _⟩, ⟨by (with_reducible repeat (first | apply Kd.R_alloc | apply Kd.R_drewN | apply Kd.R_drew)); exact HO316.out⟩, ⟨by repeat (first | (with_reducible first | exact HB.out | apply below_alloc | apply pw_below_drewN | apply below_drew1) | exact HB.out)⟩⟩
 case round =>
  clear H'
  try clear p2
  (repeat clear HO_3); (repeat clear HB)
  obtain ⟨x3_1, x4_1, rfl, HA, HK1, HO_3, HB⟩ := hrel
  cases gk with
  | zero => exact absurd HA.out (by simp [hopmeshref34_Cells.l0])
  | succ k1 =>
   have H := HA.out
   clear HA
   simp only [hopmeshref34_Cells.l0] at H
   by_cases c4 : x4_1 < (l0.length : Int)
   ·
    rw [if_pos c4] at H
    have c4b0 : decide (x4_1 < (l0.length : Int)) = true := decide_eq_true c4
    clear c4
    by_cases c5 : 0 ≤ x4_1
    ·
     rw [if_pos c5] at H
     have c5b0 : decide (0 ≤ x4_1) = true := decide_eq_true c5
     clear c5
     by_cases c6 : x3_1.length < 3518437208883
     ·
      rw [if_pos c6] at H
      have LMc6 := Aside0.mk c6
      clear c6
      obtain ⟨y319, hy319⟩ : ∃ y_ : List (S36), y_ = (x3_1 ++ [(⟨0, 0, (rd_T44 l0 x4_1).f0, (rd_T44 l0 x4_1).f1, 0⟩ : S36)]) := ⟨_, rfl⟩
      replace H : (hopmeshref34_Cells.l0 k1 l0 y319 (wrap64 (x4_1 + 1))) = some r := by first | (rw [hy319]; with_reducible exact H) | (have H2_ := (Option.bind_some _ _).symm.trans H; rw [hy319]; with_reducible exact H2_) | (have H2_ := (Option.bind_some _ _).symm.trans H; with_reducible exact H2_) | with_reducible exact H | (rw [hy319]; exact H) | exact H
      have Ny319 := Aside0.mk hy319
      clear hy319
      have H' := Aside0.mk H
      clear H
      try go_wp2
      have n0_ := Aside0.mk (Kd.R_drew HO_3.out)
      have n1_ := Aside0.mk (below_drew1 HB.out)
      clear HO_3
      clear HB
      have HO_3 := n0_
      have HB := n1_
      clear n0_ n1_
      have p317 : 0 ≤ (x4_1 : Int) := of_decide_eq_true (by assumption)
      have q317 : x4_1 < (l0.length : Int) := of_decide_eq_true (by assumption)
      obtain ⟨ad317, e317, hx317_0, hx317_1, hx317_2⟩ := at_T44 HR0.out x4_1 p317 q317
      have hw317_2 := hx317_2
      have hw317_1 := hx317_1
      have hw317_0 := hx317_0
      cases e317
      replace hx317_0 := (HB.out.cell (World.block_lt_of_cell? w _ hx317_0)).trans hx317_0
      replace hx317_1 := (HB.out.cell (World.block_lt_of_cell? w _ hx317_1)).trans hx317_1
      replace hx317_2 := (HB.out.cell (World.block_lt_of_cell? w _ hx317_2)).trans hx317_2
      replace p317 := eq_true p317
      replace q317 := eq_true q317
      have p318 : 0 ≤ (x4_1 : Int) := of_decide_eq_true (by assumption)
      have q318 : x4_1 < (l0.length : Int) := of_decide_eq_true (by assumption)
      obtain ⟨ad318, e318, hx318_0, hx318_1, hx318_2⟩ := at_T44 HR0.out x4_1 p318 q318
      have hw318_2 := hx318_2
      have hw318_1 := hx318_1
      have hw318_0 := hx318_0
      obtain rfl : ad317 = ad318 := (by injection e318)
      replace hx318_0 := (HB.out.cell (World.block_lt_of_cell? w _ hx318_0)).trans hx318_0
      replace hx318_1 := (HB.out.cell (World.block_lt_of_cell? w _ hx318_1)).trans hx318_1
      replace hx318_2 := (HB.out.cell (World.block_lt_of_cell? w _ hx318_2)).trans hx318_2
      replace p318 := eq_true p318
      replace q318 := eq_true q318
      refine start_ (n := 15) (S := fun w' => w'.cell? (ad317.add ((x4_1).toNat * 3)) = some (.int .i64 ((rd_T44 l0 x4_1).f0)) ∧ w'.cell? ⟨(ad317.add ((x4_1).toNat * 3)).block, (ad317.add ((x4_1).toNat * 3)).off + 1, none⟩ = some (.int .i64 ((rd_T44 l0 x4_1).f1)) ∧ w'.cell? ⟨(ad317.add ((x4_1).toNat * 3)).block, (ad317.add ((x4_1).toNat * 3)).off + 2, none⟩ = some (.int .i64 ((rd_T44 l0 x4_1).f2)) ∧ w'.cell? (ad317.add ((x4_1).toNat * 3)) = some (.int .i64 ((rd_T44 l0 x4_1).f0)) ∧ w'.cell? ⟨(ad317.add ((x4_1).toNat * 3)).block, (ad317.add ((x4_1).toNat * 3)).off + 1, none⟩ = some (.int .i64 ((rd_T44 l0 x4_1).f1)) ∧ w'.cell? ⟨(ad317.add ((x4_1).toNat * 3)).block, (ad317.add ((x4_1).toNat * 3)).off + 2, none⟩ = some (.int .i64 ((rd_T44 l0 x4_1).f2))) (ds := []) #[false, false, false, false, false, false, false, false, false, false, false, false, false, false, false] (by kernel_rfl) rfl rfl ⟨((HB.out.cell (World.block_lt_of_cell? w _ hw317_0)).trans hw317_0), ((HB.out.cell (World.block_lt_of_cell? w _ hw317_1)).trans hw317_1), ((HB.out.cell (World.block_lt_of_cell? w _ hw317_2)).trans hw317_2), ((HB.out.cell (World.block_lt_of_cell? w _ hw318_0)).trans hw318_0), ((HB.out.cell (World.block_lt_of_cell? w _ hw318_1)).trans hw318_1), ((HB.out.cell (World.block_lt_of_cell? w _ hw318_2)).trans hw318_2)⟩ (fun hHeld => ?_); refine with_tabW hopmeshref34_Cells.tab5 hopmeshref34_Cells.bits5 (fun HT_ HW_ => ?_)
      generalize wr.drew = w7 at HO_3 HB hx317_0 hx317_1 hx317_2 hx318_0 hx318_1 hx318_2 hHeld ⊢
      refine pu_ HT_ 0 12 (bl 15 1) ?_
      refine pu_ HT_ 1 13 (bl 15 3) ?_
      refine pu_ HT_ 2 14 (bl 15 7) ?_
      refine pu_ HT_ 3 15 (bl 15 15) ?_
      refine pu_ HT_ 4 16 (bl 15 31) ?_
      refine pu_ HT_ 6 18 (bl 15 95) ?_
      refine pu_ HT_ 7 19 (bl 15 223) ?_
      refine pu_ HT_ 8 20 (bl 15 479) ?_
      refine pu_ HT_ 9 21 (bl 15 991) ?_
      refine tk_ HT_ HW_ hHeld 5 17 (bl 15 1023) ?_
      refine tk_ HT_ HW_ hHeld 10 22 (bl 15 2047) ?_
      refine pu_ HT_ 11 23 (bl 15 4095) ?_
      refine one_ (i := 12) (N := some 24) (bl 15 8191) rfl rfl (one_of HT_.out (by kernel_rfl)) (by decide) (fun K hK => ?_)
      refine value_ (w1 := ?_) (v := ?_) (by rfl) rfl ?_ ?_
      rotate_left 2
      ·
       go_simp
       constructor
       ·
        rfl
       ·
        rfl
      refine hK.out _ _ ⟨(World.cell?_alloc_lt _ _ _ (World.block_lt_of_cell? _ _ (((HB.out.cell (World.block_lt_of_cell? w _ hw317_0)).trans hw317_0)))).trans (((HB.out.cell (World.block_lt_of_cell? w _ hw317_0)).trans hw317_0)), (World.cell?_alloc_lt _ _ _ (World.block_lt_of_cell? _ _ (((HB.out.cell (World.block_lt_of_cell? w _ hw317_1)).trans hw317_1)))).trans (((HB.out.cell (World.block_lt_of_cell? w _ hw317_1)).trans hw317_1)), (World.cell?_alloc_lt _ _ _ (World.block_lt_of_cell? _ _ (((HB.out.cell (World.block_lt_of_cell? w _ hw317_2)).trans hw317_2)))).trans (((HB.out.cell (World.block_lt_of_cell? w _ hw317_2)).trans hw317_2)), (World.cell?_alloc_lt _ _ _ (World.block_lt_of_cell? _ _ (((HB.out.cell (World.block_lt_of_cell? w _ hw318_0)).trans hw318_0)))).trans (((HB.out.cell (World.block_lt_of_cell? w _ hw318_0)).trans hw318_0)), (World.cell?_alloc_lt _ _ _ (World.block_lt_of_cell? _ _ (((HB.out.cell (World.block_lt_of_cell? w _ hw318_1)).trans hw318_1)))).trans (((HB.out.cell (World.block_lt_of_cell? w _ hw318_1)).trans hw318_1)), (World.cell?_alloc_lt _ _ _ (World.block_lt_of_cell? _ _ (((HB.out.cell (World.block_lt_of_cell? w _ hw318_2)).trans hw318_2)))).trans (((HB.out.cell (World.block_lt_of_cell? w _ hw318_2)).trans hw318_2))⟩ (fun hHeld => ?_)
      clear hK K
      refine norm_ (a' := ?_) ?_ ?_
      rotate_left
      ·
       show Act.put _ (some 24) _ = _
       simp only [ap_, s0_, s1_, i64_w]
       rfl
      refine one_ (i := 13) (N := some 25) (bl 15 16383) rfl rfl (one_of HT_.out (by kernel_rfl)) (by decide) (fun K hK => ?_)
      refine Kd.R_append_step k36 (w0 := w) w.heap.size (by rfl) (.tmp 12) (.tmp 24) 27 36 (.agg #[(.int .i64 0), (.int .i64 0), (.int .i64 0), (.int .i64 0), (.int .i64 0)]) 40 rfl Try.underlying27 info36 rfl (by decide) (by omega) u3 x3_1 (⟨0, 0, (rd_T44 l0 x4_1).f0, (rd_T44 l0 x4_1).f1, 0⟩ : S36) [.int .i64 0, .int .i64 0, .int .i64 ((rd_T44 l0 x4_1).f0), .int .i64 ((rd_T44 l0 x4_1).f1), .int .i64 0] (fun _ => True) (fun _ => False) rfl rfl ?aP (fun _ hk => hk.elim) ?aF ?aO ?aB ?aS ?aL ?_
      (case aP => exact k36_mkM _ _ _ (⟨0, 0, (rd_T44 l0 x4_1).f0, (rd_T44 l0 x4_1).f1, 0⟩ : S36))
      (case aB => exact (by repeat (first | (with_reducible first | exact HB.out | apply below_alloc | apply pw_below_drewN | apply below_drew1) | exact HB.out)))
      (case aF => exact (fun _ _ => trivial))
      (case aO => exact (by (with_reducible repeat (first | apply Kd.R_alloc | apply Kd.R_drewN | apply Kd.R_drew)); exact HO_3.out))
      (case aS => exact (below_size (by repeat (first | (with_reducible first | exact HB.out | apply below_alloc | apply pw_below_drewN | apply below_drew1) | exact HB.out))))
      (case aL => have := LMc6.out; omega)
      intro v320 w8 ho hb hg hat
      rw [← Ny319.out] at ho
      have n0_ := Aside0.mk (hb)
      have n1_ := Aside0.mk (ho)
      clear HB
      clear HO_3
      have HB := n0_
      have HO321 := n1_
      clear n0_ n1_
      clear ho hb hg hat
      refine hK.out _ _ ⟨((HB.out.cell (World.block_lt_of_cell? w _ hw317_0)).trans hw317_0), ((HB.out.cell (World.block_lt_of_cell? w _ hw317_1)).trans hw317_1), ((HB.out.cell (World.block_lt_of_cell? w _ hw317_2)).trans hw317_2), ((HB.out.cell (World.block_lt_of_cell? w _ hw318_0)).trans hw318_0), ((HB.out.cell (World.block_lt_of_cell? w _ hw318_1)).trans hw318_1), ((HB.out.cell (World.block_lt_of_cell? w _ hw318_2)).trans hw318_2)⟩ (fun hHeld => ?_)
      clear hK K
      refine norm_ (a' := ?_) ?_ ?_
      rotate_left
      ·
       show Act.put _ (some 25) _ = _
       simp only [ap_, s0_, s1_, i64_w]
       rfl
      refine pu_ HT_ 14 3 (bl 15 32767) ?_
      refine done_ (done_of HT_.out (by kernel_rfl)) ?_
      try go_wp2
      go_roundg k1
      case measure => have := HK1.out; omega
      case rel => exact ⟨(y319), (wrap64 (x4_1 + 1)), (by first | rfl | (simp; done) | (simp [*]; done)), H', ⟨by have := HK1.out; omega⟩, ⟨by (with_reducible repeat (first | apply Kd.R_alloc | apply Kd.R_drewN | apply Kd.R_drew)); exact HO321.out⟩, ⟨by repeat (first | (with_reducible first | exact HB.out | apply below_alloc | apply pw_below_drewN | apply below_drew1) | exact HB.out)⟩⟩
     ·
      rw [if_neg c6] at H
      exact absurd H (by simp)
    ·
     rw [if_neg c5] at H
     exact absurd H (by simp)
   ·
    rw [if_neg c4] at H
    have c4b0 : decide (x4_1 < (l0.length : Int)) = false := decide_eq_false c4
    clear c4
    obtain rfl := Option.some.inj H
    go_wp2
    go_ret
    exact ⟨_, by first | rfl | (simp [errW_none, errW_some] <;> rfl) | (simp [*, errW_none, errW_some] <;> rfl), by (with_reducible repeat (first | apply Kd.R_alloc | apply Kd.R_drewN | apply Kd.R_drew)); exact HO_3.out, by repeat (first | (with_reducible first | exact HB.out | apply below_alloc | apply pw_below_drewN | apply below_drew1) | exact HB.out)⟩

/-! ### hopmeshref34_Together: function 24 -/
def hopmeshref34_Together.f (k : Nat) (a0_0 : Int) (l0_1 : List (List Int)) (a0_2 : Int) (a0_3 : Int) (l0_4 : List (S44)) (l0_5 : List Int) (a1_0 : Int) (a1_1 : Int) (a1_2 : Int) (a2_0 : Int) (a2_1 : Int) (a2_2 : Int) : Option (Bool) := (hopmeshref34_Cells.f k (([(⟨a1_0, a1_1, a1_2⟩ : S44), (⟨a2_0, a2_1, a2_2⟩ : S44)] : List (S44)))).bind fun t328 => ((hopmeshref34_Good.f k a0_0 l0_1 a0_2 a0_3 l0_4 l0_5 t328).bind fun t331 => (some t331))
theorem hopmeshref34_Together.mono : ∀ a0 a1 a2 a3 a4 a5 a6 a7 a8 a9 a10 a11 k, LeO (hopmeshref34_Together.f k a0 a1 a2 a3 a4 a5 a6 a7 a8 a9 a10 a11) (hopmeshref34_Together.f (k + 1) a0 a1 a2 a3 a4 a5 a6 a7 a8 a9 a10 a11) := by
 intro a0 a1 a2 a3 a4 a5 a6 a7 a8 a9 a10 a11 k
 unfold hopmeshref34_Together.f
 repeat' first
   | (with_reducible exact hopmeshref34_Cells.mono _ _)
   | (with_reducible exact hopmeshref34_Good.mono _ _ _ _ _ _ _ _)
   | (with_reducible exact LeO.refl _)
   | (with_reducible exact LeO.none _)
   | (with_reducible refine LeO.ite ?_ ?_)
   | (with_reducible refine LeO.bind ?_ (fun _ => ?_))
   | exact hopmeshref34_Cells.mono _ _
   | exact hopmeshref34_Good.mono _ _ _ _ _ _ _ _
   | exact LeO.none _
   | refine LeO.ite ?_ ?_
   | refine LeO.bind ?_ (fun _ => ?_)
set_option maxHeartbeats 8000000 in
set_option maxRecDepth 100000 in
theorem hopmeshref34_Together.calls (k : Nat) (a0_0 : Int) (A0_1 : Option Addr) (c0_1 : Nat) (l0_1 : List (List Int)) (a0_2 : Int) (a0_3 : Int) (A0_4 : Option Addr) (c0_4 : Nat) (l0_4 : List (S44)) (A0_5 : Option Addr) (c0_5 : Nat) (l0_5 : List Int) (a1_0 : Int) (a1_1 : Int) (a1_2 : Int) (a2_0 : Int) (a2_1 : Int) (a2_2 : Int) (r : Bool) (w : World) (hr0_1 : Kd.C (Kd.slice 3 (Kd.int .i64)) w A0_1 l0_1.length l0_1) (hc0_1 : l0_1.length ≤ c0_1) (hr0_4 : Kd.C k44 w A0_4 l0_4.length l0_4) (hc0_4 : l0_4.length ≤ c0_4) (hr0_5 : Kd.C (Kd.int .i64) w A0_5 l0_5.length l0_5) (hc0_5 : l0_5.length ≤ c0_5) (h : hopmeshref34_Together.f k a0_0 l0_1 a0_2 a0_3 l0_4 l0_5 a1_0 a1_1 a1_2 a2_0 a2_1 a2_2 = some r) :
  Calls Try.prog 24 #[.agg #[.int .i64 a0_0, .slice A0_1 l0_1.length c0_1, .int .i64 a0_2, .int .i64 a0_3, .slice A0_4 l0_4.length c0_4, .slice A0_5 l0_5.length c0_5], .agg #[.int .i64 a1_0, .int .i64 a1_1, .int .i64 a1_2], .agg #[.int .i64 a2_0, .int .i64 a2_1, .int .i64 a2_2]] w fun e w' => e = .returned (.bool r) ∧ Below w.heap.size w w' := by
 have hu26 := Try.underlying26
 have hu44 := Try.underlying44
 have HR0_1 := Aside0.mk hr0_1
 have HC0_1 := Aside0.mk hc0_1
 clear hr0_1 hc0_1
 have HR0_4 := Aside0.mk hr0_4
 have HC0_4 := Aside0.mk hc0_4
 clear hr0_4 hc0_4
 have HR0_5 := Aside0.mk hr0_5
 have HC0_5 := Aside0.mk hc0_5
 clear hr0_5 hc0_5
 have HB := Aside0.mk (Below.refl w.heap.size w)
 have H : ((hopmeshref34_Cells.f k (([(⟨a1_0, a1_1, a1_2⟩ : S44), (⟨a2_0, a2_1, a2_2⟩ : S44)] : List (S44)))).bind fun t328 => ((hopmeshref34_Good.f k a0_0 l0_1 a0_2 a0_3 l0_4 l0_5 t328).bind fun t331 => (some t331))) = some r := h
 clear h
 obtain ⟨y325, hy325⟩ : ∃ y_ : List (S44), y_ = (([(⟨a1_0, a1_1, a1_2⟩ : S44), (⟨a2_0, a2_1, a2_2⟩ : S44)] : List (S44))) := ⟨_, rfl⟩
 replace H : ((hopmeshref34_Cells.f k y325).bind fun t328 => ((hopmeshref34_Good.f k a0_0 l0_1 a0_2 a0_3 l0_4 l0_5 t328).bind fun t331 => (some t331))) = some r := by first | (rw [hy325]; with_reducible exact H) | (have H2_ := (Option.bind_some _ _).symm.trans H; rw [hy325]; with_reducible exact H2_) | (have H2_ := (Option.bind_some _ _).symm.trans H; with_reducible exact H2_) | with_reducible exact H | (rw [hy325]; exact H) | exact H
 have Ny325 := Aside0.mk hy325
 clear hy325
 replace H := Option.bind_eq_some_iff.mp H
 obtain ⟨t328, A40, H⟩ := H
 replace H : ((hopmeshref34_Good.f k a0_0 l0_1 a0_2 a0_3 l0_4 l0_5 t328).bind fun t331 => (some t331)) = some r := H
 have A4 := Aside0.mk A40
 clear A40
 replace H := Option.bind_eq_some_iff.mp H
 obtain ⟨t331, A50, H⟩ := H
 replace H : (some t331) = some r := H
 have A5 := Aside0.mk A50
 clear A50
 obtain rfl := Option.some.inj H
 go_enter Try.func24, Try.ntmps24
 try go_wp2_with (first | ((with_reducible refine gate_dst (N := 3) rfl ?_); refine box_event ?hg (N := 3) ?hd (cs := #[.int .i64 a0_0, .slice A0_1 l0_1.length c0_1, .int .i64 a0_2, .int .i64 a0_3, .slice A0_4 l0_4.length c0_4, .slice A0_5 l0_5.length c0_5]) (t := 26) ?hr ?_; (case hd => rfl); (case hg => rfl); (case hr => first | (go_simp; done) | (go_simp; rfl)); intro gb322 hg w6 hbox hb; have n0_ := Aside0.mk (below_step (by repeat (first | (with_reducible first | exact HB.out | apply below_alloc | apply pw_below_drewN | apply below_drew1) | exact HB.out)) hb); have n1_ := Aside0.mk (hbox); have n2_ := Aside0.mk ((by rw [hg]; exact (below_size (by repeat (first | (with_reducible first | exact HB.out | apply below_alloc | apply pw_below_drewN | apply below_drew1) | exact HB.out))) : w.heap.size ≤ gb322)); have n3_ := Aside0.mk ((by rw [hg]; exact (below_size (by repeat (first | (with_reducible first | exact HB.out | apply below_alloc | apply pw_below_drewN | apply below_drew1) | exact HB.out))) : w.heap.size ≤ gb322)); clear HB; have HB := n0_; have BK322 := n1_; have GW322 := n2_; have GE322 := n3_; clear n0_ n1_ n2_ n3_; clear hb hbox hg) | ((with_reducible refine gate_dst (N := 4) rfl ?_); refine box_event ?hg (N := 4) ?hd (cs := #[.int .i64 a1_0, .int .i64 a1_1, .int .i64 a1_2]) (t := 44) ?hr ?_; (case hd => rfl); (case hg => rfl); (case hr => first | (go_simp; done) | (go_simp; rfl)); intro gb323 hg w7 hbox hb; have n0_ := Aside0.mk (blk_below (g := gb322) (o := .cells #[.int .i64 a0_0, .slice A0_1 l0_1.length c0_1, .int .i64 a0_2, .int .i64 a0_3, .slice A0_4 l0_4.length c0_4, .slice A0_5 l0_5.length c0_5] 26 (0, 0)) (by (with_reducible repeat (first | refine blk_drewN ?_ _ | refine blk_drew ?_ | refine blk_alloc ?_ _)); exact BK322.out) hb); have n1_ := Aside0.mk (below_step (by repeat (first | (with_reducible first | exact HB.out | apply below_alloc | apply pw_below_drewN | apply below_drew1 | refine below_set ?_ GE322.out) | exact HB.out)) hb); have n2_ := Aside0.mk (hbox); have n3_ := Aside0.mk ((by rw [hg]; exact (below_size (by repeat (first | (with_reducible first | exact HB.out | apply below_alloc | apply pw_below_drewN | apply below_drew1 | refine below_set ?_ GE322.out) | exact HB.out))) : w.heap.size ≤ gb323)); have n4_ := Aside0.mk ((by rw [hg]; exact (below_size (by repeat (first | (with_reducible first | exact HB.out | apply below_alloc | apply pw_below_drewN | apply below_drew1 | refine below_set ?_ GE322.out) | exact HB.out))) : w.heap.size ≤ gb323)); have n5_ := Aside0.mk ((by rw [hg]; exact Nat.ne_of_lt (blk_lt (g := gb322) (o := .cells #[.int .i64 a0_0, .slice A0_1 l0_1.length c0_1, .int .i64 a0_2, .int .i64 a0_3, .slice A0_4 l0_4.length c0_4, .slice A0_5 l0_5.length c0_5] 26 (0, 0)) (by (with_reducible repeat (first | refine blk_drewN ?_ _ | refine blk_drew ?_ | refine blk_alloc ?_ _)); exact BK322.out)) : gb322 ≠ gb323)); have n6_ := Aside0.mk ((by rw [hg]; exact Nat.ne_of_gt (blk_lt (g := gb322) (o := .cells #[.int .i64 a0_0, .slice A0_1 l0_1.length c0_1, .int .i64 a0_2, .int .i64 a0_3, .slice A0_4 l0_4.length c0_4, .slice A0_5 l0_5.length c0_5] 26 (0, 0)) (by (with_reducible repeat (first | refine blk_drewN ?_ _ | refine blk_drew ?_ | refine blk_alloc ?_ _)); exact BK322.out)) : gb323 ≠ gb322)); clear BK322; clear HB; have BK322 := n0_; have HB := n1_; have BK323 := n2_; have GW323 := n3_; have GE323 := n4_; have NB322_323 := n5_; have NB323_322 := n6_; clear n0_ n1_ n2_ n3_ n4_ n5_ n6_; clear hb hbox hg) | ((with_reducible refine gate_dst (N := 5) rfl ?_); refine box_event ?hg (N := 5) ?hd (cs := #[.int .i64 a2_0, .int .i64 a2_1, .int .i64 a2_2]) (t := 44) ?hr ?_; (case hd => rfl); (case hg => rfl); (case hr => first | (go_simp; done) | (go_simp; rfl)); intro gb324 hg w8 hbox hb; have n0_ := Aside0.mk (blk_below (g := gb322) (o := .cells #[.int .i64 a0_0, .slice A0_1 l0_1.length c0_1, .int .i64 a0_2, .int .i64 a0_3, .slice A0_4 l0_4.length c0_4, .slice A0_5 l0_5.length c0_5] 26 (0, 0)) (by (with_reducible repeat (first | refine blk_drewN ?_ _ | refine blk_drew ?_ | refine blk_alloc ?_ _)); exact BK322.out) hb); have n1_ := Aside0.mk (blk_below (g := gb323) (o := .cells #[.int .i64 a1_0, .int .i64 a1_1, .int .i64 a1_2] 44 (0, 0)) (by (with_reducible repeat (first | refine blk_drewN ?_ _ | refine blk_drew ?_ | refine blk_alloc ?_ _)); exact BK323.out) hb); have n2_ := Aside0.mk (below_step (by repeat (first | (with_reducible first | exact HB.out | apply below_alloc | apply pw_below_drewN | apply below_drew1 | refine below_set ?_ GE322.out | refine below_set ?_ GE323.out) | exact HB.out)) hb); have n3_ := Aside0.mk (hbox); have n4_ := Aside0.mk ((by rw [hg]; exact (below_size (by repeat (first | (with_reducible first | exact HB.out | apply below_alloc | apply pw_below_drewN | apply below_drew1 | refine below_set ?_ GE322.out | refine below_set ?_ GE323.out) | exact HB.out))) : w.heap.size ≤ gb324)); have n5_ := Aside0.mk ((by rw [hg]; exact (below_size (by repeat (first | (with_reducible first | exact HB.out | apply below_alloc | apply pw_below_drewN | apply below_drew1 | refine below_set ?_ GE322.out | refine below_set ?_ GE323.out) | exact HB.out))) : w.heap.size ≤ gb324)); have n6_ := Aside0.mk ((by rw [hg]; exact Nat.ne_of_lt (blk_lt (g := gb322) (o := .cells #[.int .i64 a0_0, .slice A0_1 l0_1.length c0_1, .int .i64 a0_2, .int .i64 a0_3, .slice A0_4 l0_4.length c0_4, .slice A0_5 l0_5.length c0_5] 26 (0, 0)) (by (with_reducible repeat (first | refine blk_drewN ?_ _ | refine blk_drew ?_ | refine blk_alloc ?_ _)); exact BK322.out)) : gb322 ≠ gb324)); have n7_ := Aside0.mk ((by rw [hg]; exact Nat.ne_of_gt (blk_lt (g := gb322) (o := .cells #[.int .i64 a0_0, .slice A0_1 l0_1.length c0_1, .int .i64 a0_2, .int .i64 a0_3, .slice A0_4 l0_4.length c0_4, .slice A0_5 l0_5.length c0_5] 26 (0, 0)) (by (with_reducible repeat (first | refine blk_drewN ?_ _ | refine blk_drew ?_ | refine blk_alloc ?_ _)); exact BK322.out)) : gb324 ≠ gb322)); have n8_ := Aside0.mk ((by rw [hg]; exact Nat.ne_of_lt (blk_lt (g := gb323) (o := .cells #[.int .i64 a1_0, .int .i64 a1_1, .int .i64 a1_2] 44 (0, 0)) (by (with_reducible repeat (first | refine blk_drewN ?_ _ | refine blk_drew ?_ | refine blk_alloc ?_ _)); exact BK323.out)) : gb323 ≠ gb324)); have n9_ := Aside0.mk ((by rw [hg]; exact Nat.ne_of_gt (blk_lt (g := gb323) (o := .cells #[.int .i64 a1_0, .int .i64 a1_1, .int .i64 a1_2] 44 (0, 0)) (by (with_reducible repeat (first | refine blk_drewN ?_ _ | refine blk_drew ?_ | refine blk_alloc ?_ _)); exact BK323.out)) : gb324 ≠ gb323)); clear BK322; clear BK323; clear HB; have BK322 := n0_; have BK323 := n1_; have HB := n2_; have BK324 := n3_; have GW324 := n4_; have GE324 := n5_; have NB322_324 := n6_; have NB324_322 := n7_; have NB323_324 := n8_; have NB324_323 := n9_; clear n0_ n1_ n2_ n3_ n4_ n5_ n6_ n7_ n8_ n9_; clear hb hbox hg))
 have n0_ := Aside0.mk (blk_drew BK322.out)
 have n1_ := Aside0.mk (blk_drew BK323.out)
 have n2_ := Aside0.mk (blk_drew BK324.out)
 have n3_ := Aside0.mk (below_drew1 HB.out)
 clear BK322
 clear BK323
 clear BK324
 clear HB
 have BK322 := n0_
 have BK323 := n1_
 have BK324 := n2_
 have HB := n3_
 clear n0_ n1_ n2_ n3_
 refine start_ (n := 7) (S := fun w' => w'.cell? ⟨gb322, 0, none⟩ = some (.int .i64 a0_0) ∧ w'.cell? ⟨gb322, 1, none⟩ = some (.slice A0_1 l0_1.length c0_1) ∧ w'.cell? ⟨gb322, 2, none⟩ = some (.int .i64 a0_2) ∧ w'.cell? ⟨gb322, 3, none⟩ = some (.int .i64 a0_3) ∧ w'.cell? ⟨gb322, 4, none⟩ = some (.slice A0_4 l0_4.length c0_4) ∧ w'.cell? ⟨gb322, 5, none⟩ = some (.slice A0_5 l0_5.length c0_5) ∧ w'.cell? ⟨gb323, 0, none⟩ = some (.int .i64 a1_0) ∧ w'.cell? ⟨gb323, 1, none⟩ = some (.int .i64 a1_1) ∧ w'.cell? ⟨gb323, 2, none⟩ = some (.int .i64 a1_2) ∧ w'.cell? ⟨gb324, 0, none⟩ = some (.int .i64 a2_0) ∧ w'.cell? ⟨gb324, 1, none⟩ = some (.int .i64 a2_1) ∧ w'.cell? ⟨gb324, 2, none⟩ = some (.int .i64 a2_2)) (ds := []) #[false, false, false, false, false, false, false] (by kernel_rfl) rfl rfl ⟨(blk_cell BK322.out 0).trans rfl, (blk_cell BK322.out 1).trans rfl, (blk_cell BK322.out 2).trans rfl, (blk_cell BK322.out 3).trans rfl, (blk_cell BK322.out 4).trans rfl, (blk_cell BK322.out 5).trans rfl, (blk_cell BK323.out 0).trans rfl, (blk_cell BK323.out 1).trans rfl, (blk_cell BK323.out 2).trans rfl, (blk_cell BK324.out 0).trans rfl, (blk_cell BK324.out 1).trans rfl, (blk_cell BK324.out 2).trans rfl⟩ (fun hHeld => ?_)
 generalize w8.drew = w9 at BK322 BK323 BK324 HB hHeld ⊢
 refine take_ (i := 0) (N := some 7) (v := ?_) (a' := ?_) (bl 7 1) rfl rfl (by kernel_rfl) (fun _ _ _ h => h) (Or.inl ⟨by rfl, ?_⟩) hHeld ?_ ?_
 rotate_left
 ·
  rintro w' ⟨s0, s1, s2, s3, s4, s5, s6, s7, s8, s9, s10, s11⟩
  go_simp
  with_reducible rfl
 rotate_left
 ·
  simp only [ap_, s0_, s1_, i64_w]
  rfl
 refine take_ (i := 1) (N := some 8) (v := ?_) (a' := ?_) (bl 7 3) rfl rfl (by kernel_rfl) (fun _ _ _ h => h) (Or.inl ⟨by rfl, ?_⟩) hHeld ?_ ?_
 rotate_left
 ·
  rintro w' ⟨s0, s1, s2, s3, s4, s5, s6, s7, s8, s9, s10, s11⟩
  go_simp
  with_reducible rfl
 rotate_left
 ·
  simp only [ap_, s0_, s1_, i64_w]
  rfl
 refine take_ (i := 2) (N := some 9) (v := ?_) (a' := ?_) (bl 7 7) rfl rfl (by kernel_rfl) (fun _ _ _ h => h) (Or.inl ⟨by rfl, ?_⟩) hHeld ?_ ?_
 rotate_left
 ·
  rintro w' ⟨s0, s1, s2, s3, s4, s5, s6, s7, s8, s9, s10, s11⟩
  go_simp
  with_reducible rfl
 rotate_left
 ·
  simp only [ap_, s0_, s1_, i64_w]
  rfl
 refine one_ (i := 3) (N := some 10) (bl 7 15) rfl rfl (by kernel_rfl) (by decide) (fun K hK => ?_)
 refine Kd.R_lit_step k44 _ 44 ?hg (N := 10) ?hd (xs := ([(⟨a1_0, a1_1, a1_2⟩ : S44), (⟨a2_0, a2_1, a2_2⟩ : S44)] : List (S44))) (inner := [.int .i64 a1_0, .int .i64 a1_1, .int .i64 a1_2, .int .i64 a2_0, .int .i64 a2_1, .int .i64 a2_2]) (ok := fun _ => True) (okp := fun _ => True) ?hr ?hp (fun _ hk => hk) trivial (Below.refl _ _) (Nat.le_refl _) (by simp) ?_; (case hd => rfl); (case hg => rfl); (case hr => first | (go_simp; done) | (go_simp; rfl)); (case hp => exact (Reps.c3 (show Kd.M k44 _ _ _ (⟨a1_0, a1_1, a1_2⟩ : S44) [.int .i64 a1_0, .int .i64 a1_1, .int .i64 a1_2] from (k44_mkM _ _ _ (⟨a1_0, a1_1, a1_2⟩ : S44) )) (Reps.c3 (show Kd.M k44 _ _ _ (⟨a2_0, a2_1, a2_2⟩ : S44) [.int .i64 a2_0, .int .i64 a2_1, .int .i64 a2_2] from (k44_mkM _ _ _ (⟨a2_0, a2_1, a2_2⟩ : S44) )) (Reps.none _ _))))
 intro v326 w10 ho11 hb hg_ hnew_
 clear hg_ hnew_
 (first | rw [← Ny325.out] at ho11 | (simp only [Int.reduceToNat] at ho11; rw [← Ny325.out] at ho11))
 have n0_ := Aside0.mk (Kd.R_lower (Kd.R_newB (Kd.R_newB ho11 (g := gb323) (o := .cells #[.int .i64 a1_0, .int .i64 a1_1, .int .i64 a1_2] 44 (0, 0)) (by (with_reducible repeat (first | refine blk_drewN ?_ _ | refine blk_drew ?_ | refine blk_alloc ?_ _)); exact BK323.out)) (g := gb324) (o := .cells #[.int .i64 a2_0, .int .i64 a2_1, .int .i64 a2_2] 44 (0, 0)) (by (with_reducible repeat (first | refine blk_drewN ?_ _ | refine blk_drew ?_ | refine blk_alloc ?_ _)); exact BK324.out)) (below_size (by repeat (first | (with_reducible first | exact HB.out | apply below_alloc | apply pw_below_drewN | apply below_drew1 | refine below_set ?_ GE322.out | refine below_set ?_ GE323.out | refine below_set ?_ GE324.out) | exact HB.out))))
 have n1_ := Aside0.mk (blk_below (g := gb322) (o := .cells #[.int .i64 a0_0, .slice A0_1 l0_1.length c0_1, .int .i64 a0_2, .int .i64 a0_3, .slice A0_4 l0_4.length c0_4, .slice A0_5 l0_5.length c0_5] 26 (0, 0)) (by (with_reducible repeat (first | refine blk_drewN ?_ _ | refine blk_drew ?_ | refine blk_alloc ?_ _)); exact BK322.out) hb)
 have n2_ := Aside0.mk (blk_below (g := gb323) (o := .cells #[.int .i64 a1_0, .int .i64 a1_1, .int .i64 a1_2] 44 (0, 0)) (by (with_reducible repeat (first | refine blk_drewN ?_ _ | refine blk_drew ?_ | refine blk_alloc ?_ _)); exact BK323.out) hb)
 have n3_ := Aside0.mk (blk_below (g := gb324) (o := .cells #[.int .i64 a2_0, .int .i64 a2_1, .int .i64 a2_2] 44 (0, 0)) (by (with_reducible repeat (first | refine blk_drewN ?_ _ | refine blk_drew ?_ | refine blk_alloc ?_ _)); exact BK324.out) hb)
 have n4_ := Aside0.mk (below_step (by repeat (first | (with_reducible first | exact HB.out | apply below_alloc | apply pw_below_drewN | apply below_drew1 | refine below_set ?_ GE322.out | refine below_set ?_ GE323.out | refine below_set ?_ GE324.out) | exact HB.out)) hb)
 clear BK322
 clear BK323
 clear BK324
 clear HB
 have HO327 := n0_
 have BK322 := n1_
 have BK323 := n2_
 have BK324 := n3_
 have HB := n4_
 clear n0_ n1_ n2_ n3_ n4_
 clear hb ho11
 obtain ⟨Ao12, co12, eo12⟩ := Kd.R_slice HO327.out
 (first | subst eo12 | (injection eo12 with f1_ f2_ f3_; have f4_ := f1_.symm; have f5_ := f3_.symm; clear f1_ f2_ f3_; subst f4_; subst f5_))
 refine hK.out _ _ ⟨(blk_cell BK322.out 0).trans rfl, (blk_cell BK322.out 1).trans rfl, (blk_cell BK322.out 2).trans rfl, (blk_cell BK322.out 3).trans rfl, (blk_cell BK322.out 4).trans rfl, (blk_cell BK322.out 5).trans rfl, (blk_cell BK323.out 0).trans rfl, (blk_cell BK323.out 1).trans rfl, (blk_cell BK323.out 2).trans rfl, (blk_cell BK324.out 0).trans rfl, (blk_cell BK324.out 1).trans rfl, (blk_cell BK324.out 2).trans rfl⟩ (fun hHeld => ?_)
 clear hK K
 refine norm_ (a' := ?_) ?_ ?_
 rotate_left
 ·
  show Act.put _ (some 10) _ = _
  simp only [ap_, s0_, s1_, i64_w]
  rfl
 refine one_ (i := 4) (N := some 11) (bl 7 31) rfl rfl (by kernel_rfl) (by decide) (fun K hK => ?_)
 refine goes_ Try.func50 (by kernel_rfl) rfl #[.slice Ao12 y325.length co12] (by rfl) rfl rfl (by (try simp only [List.map_toArray, List.map_cons, List.map_nil]); first | done | rfl | (simp only [List.length_drop, List.length_take]; rfl)) ?_
 with_reducible refine (hopmeshref34_Cells.calls k _ _ y325 t328 _ ?side1 ?side2 A4.out).mono ?_
 (case side1 => repeat (first | exact (Kd.R_reads' HO327.out).2.2 | (with_reducible refine Kd.C_alloc ?_ _) | (with_reducible refine Kd.C_drewN ?_ _) | (with_reducible refine Kd.C_drew ?_)))
 (case side2 => exact (Kd.R_reads' HO327.out).2.1)
 rintro e w13 ⟨v329, rfl, ho0, hb⟩
 refine ⟨_, rfl, ?_⟩
 have n0_ := Aside0.mk (Kd.R_below (by (with_reducible repeat (first | apply Kd.R_alloc | apply Kd.R_drewN | apply Kd.R_drew)); exact HO327.out) hb)
 have n1_ := Aside0.mk (Kd.R_lower ho0 (below_size (by repeat (first | (with_reducible first | exact HB.out | apply below_alloc | apply pw_below_drewN | apply below_drew1 | refine below_set ?_ GE322.out | refine below_set ?_ GE323.out | refine below_set ?_ GE324.out) | exact HB.out))))
 have n2_ := Aside0.mk (blk_below (g := gb322) (o := .cells #[.int .i64 a0_0, .slice A0_1 l0_1.length c0_1, .int .i64 a0_2, .int .i64 a0_3, .slice A0_4 l0_4.length c0_4, .slice A0_5 l0_5.length c0_5] 26 (0, 0)) (by (with_reducible repeat (first | refine blk_drewN ?_ _ | refine blk_drew ?_ | refine blk_alloc ?_ _)); exact BK322.out) hb)
 have n3_ := Aside0.mk (blk_below (g := gb323) (o := .cells #[.int .i64 a1_0, .int .i64 a1_1, .int .i64 a1_2] 44 (0, 0)) (by (with_reducible repeat (first | refine blk_drewN ?_ _ | refine blk_drew ?_ | refine blk_alloc ?_ _)); exact BK323.out) hb)
 have n4_ := Aside0.mk (blk_below (g := gb324) (o := .cells #[.int .i64 a2_0, .int .i64 a2_1, .int .i64 a2_2] 44 (0, 0)) (by (with_reducible repeat (first | refine blk_drewN ?_ _ | refine blk_drew ?_ | refine blk_alloc ?_ _)); exact BK324.out) hb)
 have n5_ := Aside0.mk (below_step (by repeat (first | (with_reducible first | exact HB.out | apply below_alloc | apply pw_below_drewN | apply below_drew1 | refine below_set ?_ GE322.out | refine below_set ?_ GE323.out | refine below_set ?_ GE324.out) | exact HB.out)) hb)
 clear HO327
 clear BK322
 clear BK323
 clear BK324
 clear HB
 have HO327 := n0_
 have HO330 := n1_
 have BK322 := n2_
 have BK323 := n3_
 have BK324 := n4_
 have HB := n5_
 clear n0_ n1_ n2_ n3_ n4_ n5_
 (try clear hb)
 (try clear hb2)
 (try clear hk)
 (try clear hi)
 (try clear ho0)
 obtain ⟨Ao14, co14, eo14⟩ := Kd.R_slice HO330.out
 (first | subst eo14 | (injection eo14 with f1_ f2_ f3_; have f4_ := f1_.symm; have f5_ := f3_.symm; clear f1_ f2_ f3_; subst f4_; subst f5_))
 refine hK.out _ _ ⟨(blk_cell BK322.out 0).trans rfl, (blk_cell BK322.out 1).trans rfl, (blk_cell BK322.out 2).trans rfl, (blk_cell BK322.out 3).trans rfl, (blk_cell BK322.out 4).trans rfl, (blk_cell BK322.out 5).trans rfl, (blk_cell BK323.out 0).trans rfl, (blk_cell BK323.out 1).trans rfl, (blk_cell BK323.out 2).trans rfl, (blk_cell BK324.out 0).trans rfl, (blk_cell BK324.out 1).trans rfl, (blk_cell BK324.out 2).trans rfl⟩ (fun hHeld => ?_)
 clear hK K
 refine norm_ (a' := ?_) ?_ ?_
 rotate_left
 ·
  show Act.put _ (some 11) _ = _
  simp only [ap_, s0_, s1_, i64_w]
  rfl
 refine one_ (i := 5) (N := some 12) (bl 7 63) rfl rfl (by kernel_rfl) (by decide) (fun K hK => ?_)
 refine goes_ Try.func22 (by kernel_rfl) rfl #[.agg #[.int .i64 a0_0, .slice A0_1 l0_1.length c0_1, .int .i64 a0_2, .int .i64 a0_3, .slice A0_4 l0_4.length c0_4, .slice A0_5 l0_5.length c0_5], .slice Ao14 t328.length co14] (by rfl) rfl rfl (by (try simp only [List.map_toArray, List.map_cons, List.map_nil]); first | done | rfl | (simp only [List.length_drop, List.length_take]; rfl)) ?_
 with_reducible refine (hopmeshref34_Good.calls k a0_0 _ _ l0_1 a0_2 a0_3 _ _ l0_4 _ _ l0_5 _ _ t328 t331 _ ?side1 ?side2 ?side3 ?side4 ?side5 ?side6 ?side7 ?side8 A5.out).mono ?_
 (case side1 | side3 | side5 => repeat (first | exact (Kd.C_below HR0_1.out HB.out) | exact (Kd.C_below HR0_4.out HB.out) | exact (Kd.C_below HR0_5.out HB.out) | (with_reducible refine Kd.C_alloc ?_ _) | (with_reducible refine Kd.C_drewN ?_ _) | (with_reducible refine Kd.C_drew ?_)))
 (case side2 | side4 | side6 => first | exact HC0_1.out | exact HC0_4.out | exact HC0_5.out)
 (case side7 => repeat (first | exact (Kd.R_reads' HO330.out).2.2 | (with_reducible refine Kd.C_alloc ?_ _) | (with_reducible refine Kd.C_drewN ?_ _) | (with_reducible refine Kd.C_drew ?_)))
 (case side8 => exact (Kd.R_reads' HO330.out).2.1)
 rintro e w15 ⟨rfl, hb⟩
 refine ⟨_, rfl, ?_⟩
 have n0_ := Aside0.mk (Kd.R_below (by (with_reducible repeat (first | apply Kd.R_alloc | apply Kd.R_drewN | apply Kd.R_drew)); exact HO327.out) hb)
 have n1_ := Aside0.mk (Kd.R_below (by (with_reducible repeat (first | apply Kd.R_alloc | apply Kd.R_drewN | apply Kd.R_drew)); exact HO330.out) hb)
 have n2_ := Aside0.mk (blk_below (g := gb322) (o := .cells #[.int .i64 a0_0, .slice A0_1 l0_1.length c0_1, .int .i64 a0_2, .int .i64 a0_3, .slice A0_4 l0_4.length c0_4, .slice A0_5 l0_5.length c0_5] 26 (0, 0)) (by (with_reducible repeat (first | refine blk_drewN ?_ _ | refine blk_drew ?_ | refine blk_alloc ?_ _)); exact BK322.out) hb)
 have n3_ := Aside0.mk (blk_below (g := gb323) (o := .cells #[.int .i64 a1_0, .int .i64 a1_1, .int .i64 a1_2] 44 (0, 0)) (by (with_reducible repeat (first | refine blk_drewN ?_ _ | refine blk_drew ?_ | refine blk_alloc ?_ _)); exact BK323.out) hb)
 have n4_ := Aside0.mk (blk_below (g := gb324) (o := .cells #[.int .i64 a2_0, .int .i64 a2_1, .int .i64 a2_2] 44 (0, 0)) (by (with_reducible repeat (first | refine blk_drewN ?_ _ | refine blk_drew ?_ | refine blk_alloc ?_ _)); exact BK324.out) hb)
 have n5_ := Aside0.mk (below_step (by repeat (first | (with_reducible first | exact HB.out | apply below_alloc | apply pw_below_drewN | apply below_drew1 | refine below_set ?_ GE322.out | refine below_set ?_ GE323.out | refine below_set ?_ GE324.out) | exact HB.out)) hb)
 clear HO327
 clear HO330
 clear BK322
 clear BK323
 clear BK324
 clear HB
 have HO327 := n0_
 have HO330 := n1_
 have BK322 := n2_
 have BK323 := n3_
 have BK324 := n4_
 have HB := n5_
 clear n0_ n1_ n2_ n3_ n4_ n5_
 (try clear hb)
 (try clear hb2)
 (try clear hk)
 (try clear hi)
 refine hK.out _ _ ⟨(blk_cell BK322.out 0).trans rfl, (blk_cell BK322.out 1).trans rfl, (blk_cell BK322.out 2).trans rfl, (blk_cell BK322.out 3).trans rfl, (blk_cell BK322.out 4).trans rfl, (blk_cell BK322.out 5).trans rfl, (blk_cell BK323.out 0).trans rfl, (blk_cell BK323.out 1).trans rfl, (blk_cell BK323.out 2).trans rfl, (blk_cell BK324.out 0).trans rfl, (blk_cell BK324.out 1).trans rfl, (blk_cell BK324.out 2).trans rfl⟩ (fun hHeld => ?_)
 clear hK K
 refine norm_ (a' := ?_) ?_ ?_
 rotate_left
 ·
  show Act.put _ (some 12) _ = _
  simp only [ap_, s0_, s1_, i64_w]
  rfl
 refine pure_ (i := 6) (N := some 6) (v := ?_) (a' := ?_) (bl 7 127) rfl rfl (by kernel_rfl) (fun _ _ _ h => h) (Or.inl ⟨by rfl, ?_⟩) ?_ ?_
 rotate_left
 ·
  intro w'
  go_simp
  with_reducible rfl
 rotate_left
 ·
  simp only [ap_, s0_, s1_, i64_w]
  rfl
 refine done_ (by kernel_rfl) ?_
 try go_wp2
 go_ret
 exact ⟨by first | rfl | (simp [errW_none, errW_some] <;> rfl) | (simp [*, errW_none, errW_some] <;> rfl), by repeat (first | (with_reducible first | exact HB.out | apply below_alloc | apply pw_below_drewN | apply below_drew1 | refine below_set ?_ GE322.out | refine below_set ?_ GE323.out | refine below_set ?_ GE324.out) | exact HB.out)⟩

/-! ### hopmeshlaw34_ConflictFaults: function 6 -/
def hopmeshlaw34_ConflictFaults.j0 : Nat → List (S36) → Bool → Int → List (List Int) → Int → Int → List (S44) → List Int → Int → Int → Int → Int → Int → Int → Option (Bool)
 | 0, _, _, _, _, _, _, _, _, _, _, _, _, _, _ => none
 | k + 1, x1, x22, x333000, x333001, x333002, x333003, x333004, x333005, x334000, x334001, x334002, x335000, x335001, x335002 => if x22 = true then (some true) else ((conflict_First.f k x333000 x333001 x333002 x333003 x333004 x333005 x1).bind fun bt337 => ((hopmeshref34_First.f k x333000 x333001 x333002 x333003 x333004 x333005 x1).bind fun bt339 => (if bt337.1 = bt339.1 then (if (bt337.2 == bt339.2) = true then ((conflict_Good.f k x333000 x333001 x333002 x333003 x333004 x333005 x1).bind fun t341 => ((hopmeshref34_Good.f k x333000 x333001 x333002 x333003 x333004 x333005 x1).bind fun t342 => (if (t341 == t342) = true then ((conflict_Together.f k x333000 x333001 x333002 x333003 x333004 x333005 x334000 x334001 x334002 x335000 x335001 x335002).bind fun t343 => ((hopmeshref34_Together.f k x333000 x333001 x333002 x333003 x333004 x333005 x334000 x334001 x334002 x335000 x335001 x335002).bind fun t344 => (some (t343 == t344)))) else (some false)))) else (some false)) else (some false))))
def hopmeshlaw34_ConflictFaults.f (k : Nat) (a0_0 : Int) (l0_1 : List (List Int)) (a0_2 : Int) (a0_3 : Int) (l0_4 : List (S44)) (l0_5 : List Int) (l1 : List (S36)) (a2_0 : Int) (a2_1 : Int) (a2_2 : Int) (a3_0 : Int) (a3_1 : Int) (a3_2 : Int) : Option (Bool) := (hopmeshlaw34_awake.f).bind fun t335 => (if t335 = true then ((hopmeshref31_Few.f k a0_0 l0_1 a0_2 a0_3 l0_4 l0_5).bind fun t336 => (if t336 = true then (hopmeshlaw34_ConflictFaults.j0 k l1 (decide ((l1.length : Int) > 10)) a0_0 l0_1 a0_2 a0_3 l0_4 l0_5 a2_0 a2_1 a2_2 a3_0 a3_1 a3_2) else (hopmeshlaw34_ConflictFaults.j0 k l1 true a0_0 l0_1 a0_2 a0_3 l0_4 l0_5 a2_0 a2_1 a2_2 a3_0 a3_1 a3_2))) else (some false))
theorem hopmeshlaw34_ConflictFaults.mono_l : ∀ k, (∀ y0 y1 y2 y3 y4 y5 y6 y7 y8 y9 y10 y11 y12 y13, LeO (hopmeshlaw34_ConflictFaults.j0 k y0 y1 y2 y3 y4 y5 y6 y7 y8 y9 y10 y11 y12 y13) (hopmeshlaw34_ConflictFaults.j0 (k + 1) y0 y1 y2 y3 y4 y5 y6 y7 y8 y9 y10 y11 y12 y13))
 | 0 => fun _ _ _ _ _ _ _ _ _ _ _ _ _ _ r h => by simp [hopmeshlaw34_ConflictFaults.j0] at h
 | k + 1 => by
  have ih0 := hopmeshlaw34_ConflictFaults.mono_l k
  ·
   intro y0 y1 y2 y3 y4 y5 y6 y7 y8 y9 y10 y11 y12 y13
   unfold hopmeshlaw34_ConflictFaults.j0
   repeat' first
   | (with_reducible exact ih0 _ _ _ _ _ _ _ _ _ _ _ _ _ _)
   | (with_reducible exact conflict_First.mono _ _ _ _ _ _ _ _)
   | (with_reducible exact conflict_Good.mono _ _ _ _ _ _ _ _)
   | (with_reducible exact conflict_Together.mono _ _ _ _ _ _ _ _ _ _ _ _ _)
   | (with_reducible exact hopmeshref31_Few.mono _ _ _ _ _ _ _)
   | (with_reducible exact hopmeshref34_First.mono _ _ _ _ _ _ _ _)
   | (with_reducible exact hopmeshref34_Good.mono _ _ _ _ _ _ _ _)
   | (with_reducible exact hopmeshref34_Together.mono _ _ _ _ _ _ _ _ _ _ _ _ _)
   | (with_reducible exact LeO.refl _)
   | (with_reducible exact LeO.none _)
   | (with_reducible refine LeO.ite ?_ ?_)
   | (with_reducible refine LeO.bind ?_ (fun _ => ?_))
   | exact ih0 _ _ _ _ _ _ _ _ _ _ _ _ _ _
   | exact conflict_First.mono _ _ _ _ _ _ _ _
   | exact conflict_Good.mono _ _ _ _ _ _ _ _
   | exact conflict_Together.mono _ _ _ _ _ _ _ _ _ _ _ _ _
   | exact hopmeshref31_Few.mono _ _ _ _ _ _ _
   | exact hopmeshref34_First.mono _ _ _ _ _ _ _ _
   | exact hopmeshref34_Good.mono _ _ _ _ _ _ _ _
   | exact hopmeshref34_Together.mono _ _ _ _ _ _ _ _ _ _ _ _ _
   | exact LeO.none _
   | refine LeO.ite ?_ ?_
   | refine LeO.bind ?_ (fun _ => ?_)
theorem hopmeshlaw34_ConflictFaults.mono : ∀ a0 a1 a2 a3 a4 a5 a6 a7 a8 a9 a10 a11 a12 k, LeO (hopmeshlaw34_ConflictFaults.f k a0 a1 a2 a3 a4 a5 a6 a7 a8 a9 a10 a11 a12) (hopmeshlaw34_ConflictFaults.f (k + 1) a0 a1 a2 a3 a4 a5 a6 a7 a8 a9 a10 a11 a12) := by
 intro a0 a1 a2 a3 a4 a5 a6 a7 a8 a9 a10 a11 a12 k
 have ih0 := hopmeshlaw34_ConflictFaults.mono_l k
 unfold hopmeshlaw34_ConflictFaults.f
 repeat' first
   | (with_reducible exact ih0 _ _ _ _ _ _ _ _ _ _ _ _ _ _)
   | (with_reducible exact conflict_First.mono _ _ _ _ _ _ _ _)
   | (with_reducible exact conflict_Good.mono _ _ _ _ _ _ _ _)
   | (with_reducible exact conflict_Together.mono _ _ _ _ _ _ _ _ _ _ _ _ _)
   | (with_reducible exact hopmeshref31_Few.mono _ _ _ _ _ _ _)
   | (with_reducible exact hopmeshref34_First.mono _ _ _ _ _ _ _ _)
   | (with_reducible exact hopmeshref34_Good.mono _ _ _ _ _ _ _ _)
   | (with_reducible exact hopmeshref34_Together.mono _ _ _ _ _ _ _ _ _ _ _ _ _)
   | (with_reducible exact LeO.refl _)
   | (with_reducible exact LeO.none _)
   | (with_reducible refine LeO.ite ?_ ?_)
   | (with_reducible refine LeO.bind ?_ (fun _ => ?_))
   | exact ih0 _ _ _ _ _ _ _ _ _ _ _ _ _ _
   | exact conflict_First.mono _ _ _ _ _ _ _ _
   | exact conflict_Good.mono _ _ _ _ _ _ _ _
   | exact conflict_Together.mono _ _ _ _ _ _ _ _ _ _ _ _ _
   | exact hopmeshref31_Few.mono _ _ _ _ _ _ _
   | exact hopmeshref34_First.mono _ _ _ _ _ _ _ _
   | exact hopmeshref34_Good.mono _ _ _ _ _ _ _ _
   | exact hopmeshref34_Together.mono _ _ _ _ _ _ _ _ _ _ _ _ _
   | exact LeO.none _
   | refine LeO.ite ?_ ?_
   | refine LeO.bind ?_ (fun _ => ?_)
def hopmeshlaw34_ConflictFaults.T7 : Bool × List (List Nat × List Nat) := (true, [([], []), ([], []), ([0, 1], [0, 1]), ([2], [2]), ([3], [3]), ([3], [3]), ([4, 5, 3], [3, 4, 5]), ([3, 6], [3, 6]), ([7, 3], [7]), ([8], [8]), ([8], [8]), ([9, 10, 8, 8], [8, 9, 10]), ([8], [8]), ([8], [8]), ([12, 13, 11, 8], [8, 12, 13]), ([11, 14, 8], [8, 11, 14]), ([8, 15], [8, 15]), ([16, 14], [16]), ([17], [17]), ([17], [17]), ([17], [17]), ([18, 19, 20, 17, 17], [17, 18, 19, 20]), ([17], [17]), ([17], [17]), ([17], [17]), ([22, 23, 24, 21, 17], [17, 22, 23, 24]), ([21, 25, 17], [17, 21, 25]), ([17, 26], [17, 26]), ([27, 25, 0, 1, 2, 3, 4, 5, 6, 7, 8, 9, 10, 11, 12, 13, 14, 15, 16, 17, 18, 19, 20, 21, 22, 23, 24, 25, 26, 27], [27])])
def hopmeshlaw34_ConflictFaults.B7 : List Nat := [0, 0, 3, 7, 15, 15, 63, 127, 255, 511, 511, 2047, 511, 511, 16383, 32767, 65535, 131071, 262143, 262143, 262143, 2097151, 262143, 262143, 262143, 33554431, 67108863, 134217727, 268435455]
theorem hopmeshlaw34_ConflictFaults.tab7 : rtab .any (opsOf Try.f6 7) = hopmeshlaw34_ConflictFaults.T7 := by kernel_rfl
theorem hopmeshlaw34_ConflictFaults.bits7 : waitsOk hopmeshlaw34_ConflictFaults.T7.2 hopmeshlaw34_ConflictFaults.B7 = true := by kernel_rfl
set_option maxHeartbeats 8000000 in
set_option maxRecDepth 100000 in
theorem hopmeshlaw34_ConflictFaults.calls (k : Nat) (a0_0 : Int) (A0_1 : Option Addr) (c0_1 : Nat) (l0_1 : List (List Int)) (a0_2 : Int) (a0_3 : Int) (A0_4 : Option Addr) (c0_4 : Nat) (l0_4 : List (S44)) (A0_5 : Option Addr) (c0_5 : Nat) (l0_5 : List Int) (A1 : Option Addr) (c1 : Nat) (l1 : List (S36)) (a2_0 : Int) (a2_1 : Int) (a2_2 : Int) (a3_0 : Int) (a3_1 : Int) (a3_2 : Int) (r : Bool) (w : World) (hr0_1 : Kd.C (Kd.slice 3 (Kd.int .i64)) w A0_1 l0_1.length l0_1) (hc0_1 : l0_1.length ≤ c0_1) (hr0_4 : Kd.C k44 w A0_4 l0_4.length l0_4) (hc0_4 : l0_4.length ≤ c0_4) (hr0_5 : Kd.C (Kd.int .i64) w A0_5 l0_5.length l0_5) (hc0_5 : l0_5.length ≤ c0_5) (hr1 : Kd.C k36 w A1 l1.length l1) (hc1 : l1.length ≤ c1) (h : hopmeshlaw34_ConflictFaults.f k a0_0 l0_1 a0_2 a0_3 l0_4 l0_5 l1 a2_0 a2_1 a2_2 a3_0 a3_1 a3_2 = some r) :
  Calls Try.prog 6 #[.agg #[.int .i64 a0_0, .slice A0_1 l0_1.length c0_1, .int .i64 a0_2, .int .i64 a0_3, .slice A0_4 l0_4.length c0_4, .slice A0_5 l0_5.length c0_5], .slice A1 l1.length c1, .agg #[.int .i64 a2_0, .int .i64 a2_1, .int .i64 a2_2], .agg #[.int .i64 a3_0, .int .i64 a3_1, .int .i64 a3_2]] w fun e w' => e = .returned (.bool r) ∧ Below w.heap.size w w' := by
 have hu26 := Try.underlying26
 have hu44 := Try.underlying44
 have HR0_1 := Aside0.mk hr0_1
 have HC0_1 := Aside0.mk hc0_1
 clear hr0_1 hc0_1
 have HR0_4 := Aside0.mk hr0_4
 have HC0_4 := Aside0.mk hc0_4
 clear hr0_4 hc0_4
 have HR0_5 := Aside0.mk hr0_5
 have HC0_5 := Aside0.mk hc0_5
 clear hr0_5 hc0_5
 have HR1 := Aside0.mk hr1
 have HC1 := Aside0.mk hc1
 clear hr1 hc1
 have HB := Aside0.mk (Below.refl w.heap.size w)
 have H : ((hopmeshlaw34_awake.f).bind fun t335 => (if t335 = true then ((hopmeshref31_Few.f k a0_0 l0_1 a0_2 a0_3 l0_4 l0_5).bind fun t336 => (if t336 = true then (hopmeshlaw34_ConflictFaults.j0 k l1 (decide ((l1.length : Int) > 10)) a0_0 l0_1 a0_2 a0_3 l0_4 l0_5 a2_0 a2_1 a2_2 a3_0 a3_1 a3_2) else (hopmeshlaw34_ConflictFaults.j0 k l1 true a0_0 l0_1 a0_2 a0_3 l0_4 l0_5 a2_0 a2_1 a2_2 a3_0 a3_1 a3_2))) else (some false))) = some r := h
 clear h
 replace H := Option.bind_eq_some_iff.mp H
 obtain ⟨t335, A50, H⟩ := H
 replace H : (if t335 = true then ((hopmeshref31_Few.f k a0_0 l0_1 a0_2 a0_3 l0_4 l0_5).bind fun t336 => (if t336 = true then (hopmeshlaw34_ConflictFaults.j0 k l1 (decide ((l1.length : Int) > 10)) a0_0 l0_1 a0_2 a0_3 l0_4 l0_5 a2_0 a2_1 a2_2 a3_0 a3_1 a3_2) else (hopmeshlaw34_ConflictFaults.j0 k l1 true a0_0 l0_1 a0_2 a0_3 l0_4 l0_5 a2_0 a2_1 a2_2 a3_0 a3_1 a3_2))) else (some false)) = some r := H
 have A5 := Aside0.mk A50
 clear A50
 by_cases c6 : t335 = true
 ·
  subst c6
  have H1 : ((hopmeshref31_Few.f k a0_0 l0_1 a0_2 a0_3 l0_4 l0_5).bind fun t336 => (if t336 = true then (hopmeshlaw34_ConflictFaults.j0 k l1 (decide ((l1.length : Int) > 10)) a0_0 l0_1 a0_2 a0_3 l0_4 l0_5 a2_0 a2_1 a2_2 a3_0 a3_1 a3_2) else (hopmeshlaw34_ConflictFaults.j0 k l1 true a0_0 l0_1 a0_2 a0_3 l0_4 l0_5 a2_0 a2_1 a2_2 a3_0 a3_1 a3_2))) = some r := by rw [if_pos rfl] at H; exact H
  clear H
  have H := H1
  clear H1
  have HC7 := Aside0.mk H
  clear H
  go_enter Try.func6, Try.ntmps6
  go_upto_region 3 with (first | ((with_reducible refine gate_dst (N := 4) rfl ?_); refine box_event ?hg (N := 4) ?hd (cs := #[.int .i64 a0_0, .slice A0_1 l0_1.length c0_1, .int .i64 a0_2, .int .i64 a0_3, .slice A0_4 l0_4.length c0_4, .slice A0_5 l0_5.length c0_5]) (t := 26) ?hr ?_; (case hd => rfl); (case hg => rfl); (case hr => first | (go_simp; done) | (go_simp; rfl)); intro gb332 hg w8 hbox hb; have n0_ := Aside0.mk (below_step (by repeat (first | (with_reducible first | exact HB.out | apply below_alloc | apply pw_below_drewN | apply below_drew1) | exact HB.out)) hb); have n1_ := Aside0.mk (hbox); have n2_ := Aside0.mk ((by rw [hg]; exact (below_size (by repeat (first | (with_reducible first | exact HB.out | apply below_alloc | apply pw_below_drewN | apply below_drew1) | exact HB.out))) : w.heap.size ≤ gb332)); have n3_ := Aside0.mk ((by rw [hg]; exact (below_size (by repeat (first | (with_reducible first | exact HB.out | apply below_alloc | apply pw_below_drewN | apply below_drew1) | exact HB.out))) : w.heap.size ≤ gb332)); clear HB; have HB := n0_; have BK332 := n1_; have GW332 := n2_; have GE332 := n3_; clear n0_ n1_ n2_ n3_; clear hb hbox hg) | ((with_reducible refine gate_dst (N := 6) rfl ?_); refine box_event ?hg (N := 6) ?hd (cs := #[.int .i64 a2_0, .int .i64 a2_1, .int .i64 a2_2]) (t := 44) ?hr ?_; (case hd => rfl); (case hg => rfl); (case hr => first | (go_simp; done) | (go_simp; rfl)); intro gb333 hg w9 hbox hb; have n0_ := Aside0.mk (blk_below (g := gb332) (o := .cells #[.int .i64 a0_0, .slice A0_1 l0_1.length c0_1, .int .i64 a0_2, .int .i64 a0_3, .slice A0_4 l0_4.length c0_4, .slice A0_5 l0_5.length c0_5] 26 (0, 0)) (by (with_reducible repeat (first | refine blk_drewN ?_ _ | refine blk_drew ?_ | refine blk_alloc ?_ _)); exact BK332.out) hb); have n1_ := Aside0.mk (below_step (by repeat (first | (with_reducible first | exact HB.out | apply below_alloc | apply pw_below_drewN | apply below_drew1 | refine below_set ?_ GE332.out) | exact HB.out)) hb); have n2_ := Aside0.mk (hbox); have n3_ := Aside0.mk ((by rw [hg]; exact (below_size (by repeat (first | (with_reducible first | exact HB.out | apply below_alloc | apply pw_below_drewN | apply below_drew1 | refine below_set ?_ GE332.out) | exact HB.out))) : w.heap.size ≤ gb333)); have n4_ := Aside0.mk ((by rw [hg]; exact (below_size (by repeat (first | (with_reducible first | exact HB.out | apply below_alloc | apply pw_below_drewN | apply below_drew1 | refine below_set ?_ GE332.out) | exact HB.out))) : w.heap.size ≤ gb333)); have n5_ := Aside0.mk ((by rw [hg]; exact Nat.ne_of_lt (blk_lt (g := gb332) (o := .cells #[.int .i64 a0_0, .slice A0_1 l0_1.length c0_1, .int .i64 a0_2, .int .i64 a0_3, .slice A0_4 l0_4.length c0_4, .slice A0_5 l0_5.length c0_5] 26 (0, 0)) (by (with_reducible repeat (first | refine blk_drewN ?_ _ | refine blk_drew ?_ | refine blk_alloc ?_ _)); exact BK332.out)) : gb332 ≠ gb333)); have n6_ := Aside0.mk ((by rw [hg]; exact Nat.ne_of_gt (blk_lt (g := gb332) (o := .cells #[.int .i64 a0_0, .slice A0_1 l0_1.length c0_1, .int .i64 a0_2, .int .i64 a0_3, .slice A0_4 l0_4.length c0_4, .slice A0_5 l0_5.length c0_5] 26 (0, 0)) (by (with_reducible repeat (first | refine blk_drewN ?_ _ | refine blk_drew ?_ | refine blk_alloc ?_ _)); exact BK332.out)) : gb333 ≠ gb332)); clear BK332; clear HB; have BK332 := n0_; have HB := n1_; have BK333 := n2_; have GW333 := n3_; have GE333 := n4_; have NB332_333 := n5_; have NB333_332 := n6_; clear n0_ n1_ n2_ n3_ n4_ n5_ n6_; clear hb hbox hg) | ((with_reducible refine gate_dst (N := 7) rfl ?_); refine box_event ?hg (N := 7) ?hd (cs := #[.int .i64 a3_0, .int .i64 a3_1, .int .i64 a3_2]) (t := 44) ?hr ?_; (case hd => rfl); (case hg => rfl); (case hr => first | (go_simp; done) | (go_simp; rfl)); intro gb334 hg w10 hbox hb; have n0_ := Aside0.mk (blk_below (g := gb332) (o := .cells #[.int .i64 a0_0, .slice A0_1 l0_1.length c0_1, .int .i64 a0_2, .int .i64 a0_3, .slice A0_4 l0_4.length c0_4, .slice A0_5 l0_5.length c0_5] 26 (0, 0)) (by (with_reducible repeat (first | refine blk_drewN ?_ _ | refine blk_drew ?_ | refine blk_alloc ?_ _)); exact BK332.out) hb); have n1_ := Aside0.mk (blk_below (g := gb333) (o := .cells #[.int .i64 a2_0, .int .i64 a2_1, .int .i64 a2_2] 44 (0, 0)) (by (with_reducible repeat (first | refine blk_drewN ?_ _ | refine blk_drew ?_ | refine blk_alloc ?_ _)); exact BK333.out) hb); have n2_ := Aside0.mk (below_step (by repeat (first | (with_reducible first | exact HB.out | apply below_alloc | apply pw_below_drewN | apply below_drew1 | refine below_set ?_ GE332.out | refine below_set ?_ GE333.out) | exact HB.out)) hb); have n3_ := Aside0.mk (hbox); have n4_ := Aside0.mk ((by rw [hg]; exact (below_size (by repeat (first | (with_reducible first | exact HB.out | apply below_alloc | apply pw_below_drewN | apply below_drew1 | refine below_set ?_ GE332.out | refine below_set ?_ GE333.out) | exact HB.out))) : w.heap.size ≤ gb334)); have n5_ := Aside0.mk ((by rw [hg]; exact (below_size (by repeat (first | (with_reducible first | exact HB.out | apply below_alloc | apply pw_below_drewN | apply below_drew1 | refine below_set ?_ GE332.out | refine below_set ?_ GE333.out) | exact HB.out))) : w.heap.size ≤ gb334)); have n6_ := Aside0.mk ((by rw [hg]; exact Nat.ne_of_lt (blk_lt (g := gb332) (o := .cells #[.int .i64 a0_0, .slice A0_1 l0_1.length c0_1, .int .i64 a0_2, .int .i64 a0_3, .slice A0_4 l0_4.length c0_4, .slice A0_5 l0_5.length c0_5] 26 (0, 0)) (by (with_reducible repeat (first | refine blk_drewN ?_ _ | refine blk_drew ?_ | refine blk_alloc ?_ _)); exact BK332.out)) : gb332 ≠ gb334)); have n7_ := Aside0.mk ((by rw [hg]; exact Nat.ne_of_gt (blk_lt (g := gb332) (o := .cells #[.int .i64 a0_0, .slice A0_1 l0_1.length c0_1, .int .i64 a0_2, .int .i64 a0_3, .slice A0_4 l0_4.length c0_4, .slice A0_5 l0_5.length c0_5] 26 (0, 0)) (by (with_reducible repeat (first | refine blk_drewN ?_ _ | refine blk_drew ?_ | refine blk_alloc ?_ _)); exact BK332.out)) : gb334 ≠ gb332)); have n8_ := Aside0.mk ((by rw [hg]; exact Nat.ne_of_lt (blk_lt (g := gb333) (o := .cells #[.int .i64 a2_0, .int .i64 a2_1, .int .i64 a2_2] 44 (0, 0)) (by (with_reducible repeat (first | refine blk_drewN ?_ _ | refine blk_drew ?_ | refine blk_alloc ?_ _)); exact BK333.out)) : gb333 ≠ gb334)); have n9_ := Aside0.mk ((by rw [hg]; exact Nat.ne_of_gt (blk_lt (g := gb333) (o := .cells #[.int .i64 a2_0, .int .i64 a2_1, .int .i64 a2_2] 44 (0, 0)) (by (with_reducible repeat (first | refine blk_drewN ?_ _ | refine blk_drew ?_ | refine blk_alloc ?_ _)); exact BK333.out)) : gb334 ≠ gb333)); clear BK332; clear BK333; clear HB; have BK332 := n0_; have BK333 := n1_; have HB := n2_; have BK334 := n3_; have GW334 := n4_; have GE334 := n5_; have NB332_334 := n6_; have NB334_332 := n7_; have NB333_334 := n8_; have NB334_333 := n9_; clear n0_ n1_ n2_ n3_ n4_ n5_ n6_ n7_ n8_ n9_; clear hb hbox hg) | ((with_reducible refine gate_callee (f := 11) rfl ?_); refine goesL_ (some 13) rfl rfl Try.func11 (by kernel_rfl) rfl #[] rfl (by (try simp only [List.map_toArray, List.map_cons, List.map_nil]); first | done | rfl | (simp only [List.length_drop, List.length_take]; rfl)) ?_; (with_reducible refine (hopmeshlaw34_awake.calls  true _ A5.out).mono ?_); rintro e w11 ⟨rfl, hb⟩; refine ⟨_, rfl, ?_⟩; have n0_ := Aside0.mk (blk_below (g := gb332) (o := .cells #[.int .i64 a0_0, .slice A0_1 l0_1.length c0_1, .int .i64 a0_2, .int .i64 a0_3, .slice A0_4 l0_4.length c0_4, .slice A0_5 l0_5.length c0_5] 26 (0, 0)) (by (with_reducible repeat (first | refine blk_drewN ?_ _ | refine blk_drew ?_ | refine blk_alloc ?_ _)); exact BK332.out) hb); have n1_ := Aside0.mk (blk_below (g := gb333) (o := .cells #[.int .i64 a2_0, .int .i64 a2_1, .int .i64 a2_2] 44 (0, 0)) (by (with_reducible repeat (first | refine blk_drewN ?_ _ | refine blk_drew ?_ | refine blk_alloc ?_ _)); exact BK333.out) hb); have n2_ := Aside0.mk (blk_below (g := gb334) (o := .cells #[.int .i64 a3_0, .int .i64 a3_1, .int .i64 a3_2] 44 (0, 0)) (by (with_reducible repeat (first | refine blk_drewN ?_ _ | refine blk_drew ?_ | refine blk_alloc ?_ _)); exact BK334.out) hb); have n3_ := Aside0.mk (below_step (by repeat (first | (with_reducible first | exact HB.out | apply below_alloc | apply pw_below_drewN | apply below_drew1 | refine below_set ?_ GE332.out | refine below_set ?_ GE333.out | refine below_set ?_ GE334.out) | exact HB.out)) hb); clear BK332; clear BK333; clear BK334; clear HB; have BK332 := n0_; have BK333 := n1_; have BK334 := n2_; have HB := n3_; clear n0_ n1_ n2_ n3_; (try clear hb); (try clear hb2); (try clear hk); (try clear hi)))
  (try simp only [Act.put, List.setIfInBounds_toArray, List.set_cons_zero, List.set_cons_succ])
  go_cut [22] (fun v22 wc => ∃ (kq : Nat) (x22_6 : Bool), v22 = .bool x22_6 ∧ Aside0 (hopmeshlaw34_ConflictFaults.j0 kq l1 x22_6 a0_0 l0_1 a0_2 a0_3 l0_4 l0_5 a2_0 a2_1 a2_2 a3_0 a3_1 a3_2 = some r) ∧ Aside0 (kq ≤ k) ∧ Aside0 (wc.heap[gb332]? = some (.cells #[.int .i64 a0_0, (.slice A0_1 l0_1.length c0_1), .int .i64 a0_2, .int .i64 a0_3, (.slice A0_4 l0_4.length c0_4), (.slice A0_5 l0_5.length c0_5)] 26 (0, 0))) ∧ Aside0 (wc.heap[gb333]? = some (.cells #[.int .i64 a2_0, .int .i64 a2_1, .int .i64 a2_2] 44 (0, 0))) ∧ Aside0 (wc.heap[gb334]? = some (.cells #[.int .i64 a3_0, .int .i64 a3_1, .int .i64 a3_2] 44 (0, 0))) ∧ Aside0 (Below w.heap.size w wc))
  case first =>
   have H := HC7.out
   clear HC7
   replace H := Option.bind_eq_some_iff.mp H
   obtain ⟨t336, A120, H⟩ := H
   replace H : (if t336 = true then (hopmeshlaw34_ConflictFaults.j0 k l1 (decide ((l1.length : Int) > 10)) a0_0 l0_1 a0_2 a0_3 l0_4 l0_5 a2_0 a2_1 a2_2 a3_0 a3_1 a3_2) else (hopmeshlaw34_ConflictFaults.j0 k l1 true a0_0 l0_1 a0_2 a0_3 l0_4 l0_5 a2_0 a2_1 a2_2 a3_0 a3_1 a3_2)) = some r := H
   have A12 := Aside0.mk A120
   clear A120
   by_cases c13 : t336 = true
   ·
    subst c13
    have H1 : (hopmeshlaw34_ConflictFaults.j0 k l1 (decide ((l1.length : Int) > 10)) a0_0 l0_1 a0_2 a0_3 l0_4 l0_5 a2_0 a2_1 a2_2 a3_0 a3_1 a3_2) = some r := by rw [if_pos rfl] at H; exact H
    clear H
    have H := H1
    clear H1
    have H' := Aside0.mk H
    clear H
    have hnb14 := NB332_333.out
    have hnc14 := NB333_332.out
    have hnb15 := NB332_334.out
    have hnc15 := NB334_332.out
    have hcz16_0 := bc0 BK332
    have hcz16_1 := bc1 BK332
    have hcz16_2 := bc2 BK332
    have hcz16_3 := bc3 BK332
    have hcz16_4 := bc4 BK332
    have hcz16_5 := bc5 BK332
    have hfz16_0 := blk_frozen BK332.out 0
    have hfz16_1 := blk_frozen BK332.out 1
    have hfz16_2 := blk_frozen BK332.out 2
    have hfz16_3 := blk_frozen BK332.out 3
    have hfz16_4 := blk_frozen BK332.out 4
    have hfz16_5 := blk_frozen BK332.out 5
    go_wp2_with (first | ((with_reducible refine gate_callee (f := 12) rfl ?_); refine goesL_ (some 16) rfl rfl Try.func12 (by kernel_rfl) rfl #[.agg #[.int .i64 a0_0, .slice A0_1 l0_1.length c0_1, .int .i64 a0_2, .int .i64 a0_3, .slice A0_4 l0_4.length c0_4, .slice A0_5 l0_5.length c0_5]] rfl (by (try simp only [List.map_toArray, List.map_cons, List.map_nil]); first | done | rfl | (simp only [List.length_drop, List.length_take]; rfl)) ?_; (with_reducible refine (hopmeshref31_Few.calls k a0_0 _ _ l0_1 a0_2 a0_3 _ _ l0_4 _ _ l0_5 true _ ?side1 ?side2 ?side3 ?side4 ?side5 ?side6 A12.out).mono ?_); (case side1 | side3 | side5 => repeat (first | exact (Kd.C_below HR0_1.out HB.out) | exact (Kd.C_below HR0_4.out HB.out) | exact (Kd.C_below HR0_5.out HB.out) | (with_reducible refine Kd.C_alloc ?_ _) | (with_reducible refine Kd.C_drewN ?_ _) | (with_reducible refine Kd.C_drew ?_))); (case side2 | side4 | side6 => first | exact HC0_1.out | exact HC0_4.out | exact HC0_5.out); rintro e w17 ⟨rfl, hb⟩; refine ⟨_, rfl, ?_⟩; have n0_ := Aside0.mk (blk_below (g := gb332) (o := .cells #[.int .i64 a0_0, .slice A0_1 l0_1.length c0_1, .int .i64 a0_2, .int .i64 a0_3, .slice A0_4 l0_4.length c0_4, .slice A0_5 l0_5.length c0_5] 26 (0, 0)) (by (with_reducible repeat (first | refine blk_drewN ?_ _ | refine blk_drew ?_ | refine blk_alloc ?_ _)); exact BK332.out) hb); have n1_ := Aside0.mk (blk_below (g := gb333) (o := .cells #[.int .i64 a2_0, .int .i64 a2_1, .int .i64 a2_2] 44 (0, 0)) (by (with_reducible repeat (first | refine blk_drewN ?_ _ | refine blk_drew ?_ | refine blk_alloc ?_ _)); exact BK333.out) hb); have n2_ := Aside0.mk (blk_below (g := gb334) (o := .cells #[.int .i64 a3_0, .int .i64 a3_1, .int .i64 a3_2] 44 (0, 0)) (by (with_reducible repeat (first | refine blk_drewN ?_ _ | refine blk_drew ?_ | refine blk_alloc ?_ _)); exact BK334.out) hb); have n3_ := Aside0.mk (below_step (by repeat (first | (with_reducible first | exact HB.out | apply below_alloc | apply pw_below_drewN | apply below_drew1 | refine below_set ?_ GE332.out | refine below_set ?_ GE333.out | refine below_set ?_ GE334.out) | exact HB.out)) hb); clear BK332; clear BK333; clear BK334; clear HB; have BK332 := n0_; have BK333 := n1_; have BK334 := n2_; have HB := n3_; clear n0_ n1_ n2_ n3_; (try clear hb); (try clear hb2); (try clear hk); (try clear hi)))
    go_meet
    case rel => exact ⟨_, (decide ((l1.length : Int) > 10)), (by first | rfl | (simp; done) | (simp [*]; done)), H', ⟨by first | omega | exact Nat.le_refl _⟩, ⟨by (with_reducible repeat (first | refine blk_drewN ?_ _ | refine blk_drew ?_ | refine blk_alloc ?_ _)); exact BK332.out⟩, ⟨by (with_reducible repeat (first | refine blk_drewN ?_ _ | refine blk_drew ?_ | refine blk_alloc ?_ _)); exact BK333.out⟩, ⟨by (with_reducible repeat (first | refine blk_drewN ?_ _ | refine blk_drew ?_ | refine blk_alloc ?_ _)); exact BK334.out⟩, ⟨by repeat (first | (with_reducible first | exact HB.out | apply below_alloc | apply pw_below_drewN | apply below_drew1 | refine below_set ?_ GE332.out | refine below_set ?_ GE333.out | refine below_set ?_ GE334.out) | exact HB.out)⟩⟩
   ·
    replace c13 := Bool.eq_false_iff.mpr c13
    subst c13
    have H1 : (hopmeshlaw34_ConflictFaults.j0 k l1 true a0_0 l0_1 a0_2 a0_3 l0_4 l0_5 a2_0 a2_1 a2_2 a3_0 a3_1 a3_2) = some r := by rw [if_neg (show ¬ (false = true) by decide)] at H; exact H
    clear H
    have H := H1
    clear H1
    have H' := Aside0.mk H
    clear H
    have hnb18 := NB332_333.out
    have hnc18 := NB333_332.out
    have hnb19 := NB332_334.out
    have hnc19 := NB334_332.out
    have hcz20_0 := bc0 BK332
    have hcz20_1 := bc1 BK332
    have hcz20_2 := bc2 BK332
    have hcz20_3 := bc3 BK332
    have hcz20_4 := bc4 BK332
    have hcz20_5 := bc5 BK332
    have hfz20_0 := blk_frozen BK332.out 0
    have hfz20_1 := blk_frozen BK332.out 1
    have hfz20_2 := blk_frozen BK332.out 2
    have hfz20_3 := blk_frozen BK332.out 3
    have hfz20_4 := blk_frozen BK332.out 4
    have hfz20_5 := blk_frozen BK332.out 5
    go_wp2_with (first | ((with_reducible refine gate_callee (f := 12) rfl ?_); refine goesL_ (some 16) rfl rfl Try.func12 (by kernel_rfl) rfl #[.agg #[.int .i64 a0_0, .slice A0_1 l0_1.length c0_1, .int .i64 a0_2, .int .i64 a0_3, .slice A0_4 l0_4.length c0_4, .slice A0_5 l0_5.length c0_5]] rfl (by (try simp only [List.map_toArray, List.map_cons, List.map_nil]); first | done | rfl | (simp only [List.length_drop, List.length_take]; rfl)) ?_; (with_reducible refine (hopmeshref31_Few.calls k a0_0 _ _ l0_1 a0_2 a0_3 _ _ l0_4 _ _ l0_5 false _ ?side1 ?side2 ?side3 ?side4 ?side5 ?side6 A12.out).mono ?_); (case side1 | side3 | side5 => repeat (first | exact (Kd.C_below HR0_1.out HB.out) | exact (Kd.C_below HR0_4.out HB.out) | exact (Kd.C_below HR0_5.out HB.out) | (with_reducible refine Kd.C_alloc ?_ _) | (with_reducible refine Kd.C_drewN ?_ _) | (with_reducible refine Kd.C_drew ?_))); (case side2 | side4 | side6 => first | exact HC0_1.out | exact HC0_4.out | exact HC0_5.out); rintro e w21 ⟨rfl, hb⟩; refine ⟨_, rfl, ?_⟩; have n0_ := Aside0.mk (blk_below (g := gb332) (o := .cells #[.int .i64 a0_0, .slice A0_1 l0_1.length c0_1, .int .i64 a0_2, .int .i64 a0_3, .slice A0_4 l0_4.length c0_4, .slice A0_5 l0_5.length c0_5] 26 (0, 0)) (by (with_reducible repeat (first | refine blk_drewN ?_ _ | refine blk_drew ?_ | refine blk_alloc ?_ _)); exact BK332.out) hb); have n1_ := Aside0.mk (blk_below (g := gb333) (o := .cells #[.int .i64 a2_0, .int .i64 a2_1, .int .i64 a2_2] 44 (0, 0)) (by (with_reducible repeat (first | refine blk_drewN ?_ _ | refine blk_drew ?_ | refine blk_alloc ?_ _)); exact BK333.out) hb); have n2_ := Aside0.mk (blk_below (g := gb334) (o := .cells #[.int .i64 a3_0, .int .i64 a3_1, .int .i64 a3_2] 44 (0, 0)) (by (with_reducible repeat (first | refine blk_drewN ?_ _ | refine blk_drew ?_ | refine blk_alloc ?_ _)); exact BK334.out) hb); have n3_ := Aside0.mk (below_step (by repeat (first | (with_reducible first | exact HB.out | apply below_alloc | apply pw_below_drewN | apply below_drew1 | refine below_set ?_ GE332.out | refine below_set ?_ GE333.out | refine below_set ?_ GE334.out) | exact HB.out)) hb); clear BK332; clear BK333; clear BK334; clear HB; have BK332 := n0_; have BK333 := n1_; have BK334 := n2_; have HB := n3_; clear n0_ n1_ n2_ n3_; (try clear hb); (try clear hb2); (try clear hk); (try clear hi)))
    go_meet
    case rel => exact ⟨_, (true), (by first | rfl | (simp; done) | (simp [*]; done)), H', ⟨by first | omega | exact Nat.le_refl _⟩, ⟨by (with_reducible repeat (first | refine blk_drewN ?_ _ | refine blk_drew ?_ | refine blk_alloc ?_ _)); exact BK332.out⟩, ⟨by (with_reducible repeat (first | refine blk_drewN ?_ _ | refine blk_drew ?_ | refine blk_alloc ?_ _)); exact BK333.out⟩, ⟨by (with_reducible repeat (first | refine blk_drewN ?_ _ | refine blk_drew ?_ | refine blk_alloc ?_ _)); exact BK334.out⟩, ⟨by repeat (first | (with_reducible first | exact HB.out | apply below_alloc | apply pw_below_drewN | apply below_drew1 | refine below_set ?_ GE332.out | refine below_set ?_ GE333.out | refine below_set ?_ GE334.out) | exact HB.out)⟩⟩
  case rest =>
   clear HC7
   try clear c1; try clear p2; try clear c6; try clear c11; try clear c12; try clear c13; try clear c14; try clear c15; try clear c18; try clear c19; try clear hcz16_0; try clear hcz16_1; try clear hcz16_2; try clear hcz16_3; try clear hcz16_4; try clear hcz16_5; try clear hcz20_0; try clear hcz20_1; try clear hcz20_2; try clear hcz20_3; try clear hcz20_4; try clear hcz20_5; try clear hfz16_0; try clear hfz16_1; try clear hfz16_2; try clear hfz16_3; try clear hfz16_4; try clear hfz16_5; try clear hfz20_0; try clear hfz20_1; try clear hfz20_2; try clear hfz20_3; try clear hfz20_4; try clear hfz20_5
   (repeat clear BK332); (repeat clear BK333); (repeat clear BK334); (repeat clear HB)
   obtain ⟨kq, x22_6, rfl, HA, HJ6, BK332, BK333, BK334, HB⟩ := hcut
   cases kq with
   | zero => exact absurd HA.out (by simp [hopmeshlaw34_ConflictFaults.j0])
   | succ kj6 =>
    have H := HA.out
    clear HA
    simp only [hopmeshlaw34_ConflictFaults.j0] at H
    by_cases c22 : x22_6 = true
    ·
     subst c22
     have H1 : (some true) = some r := by rw [if_pos rfl] at H; exact H
     clear H
     have H := H1
     clear H1
     obtain rfl := Option.some.inj H
     go_wp2
     go_ret
     exact ⟨by first | rfl | (simp [errW_none, errW_some] <;> rfl) | (simp [*, errW_none, errW_some] <;> rfl), by repeat (first | (with_reducible first | exact HB.out | apply below_alloc | apply pw_below_drewN | apply below_drew1 | refine below_set ?_ GE332.out | refine below_set ?_ GE333.out | refine below_set ?_ GE334.out) | exact HB.out)⟩
    ·
     replace c22 := Bool.eq_false_iff.mpr c22
     subst c22
     have H1 : ((conflict_First.f kj6 a0_0 l0_1 a0_2 a0_3 l0_4 l0_5 l1).bind fun bt337 => ((hopmeshref34_First.f kj6 a0_0 l0_1 a0_2 a0_3 l0_4 l0_5 l1).bind fun bt339 => (if bt337.1 = bt339.1 then (if (bt337.2 == bt339.2) = true then ((conflict_Good.f kj6 a0_0 l0_1 a0_2 a0_3 l0_4 l0_5 l1).bind fun t341 => ((hopmeshref34_Good.f kj6 a0_0 l0_1 a0_2 a0_3 l0_4 l0_5 l1).bind fun t342 => (if (t341 == t342) = true then ((conflict_Together.f kj6 a0_0 l0_1 a0_2 a0_3 l0_4 l0_5 a2_0 a2_1 a2_2 a3_0 a3_1 a3_2).bind fun t343 => ((hopmeshref34_Together.f kj6 a0_0 l0_1 a0_2 a0_3 l0_4 l0_5 a2_0 a2_1 a2_2 a3_0 a3_1 a3_2).bind fun t344 => (some (t343 == t344)))) else (some false)))) else (some false)) else (some false)))) = some r := by rw [if_neg (show ¬ (false = true) by decide)] at H; exact H
     clear H
     have H := H1
     clear H1
     replace H := Option.bind_eq_some_iff.mp H
     obtain ⟨⟨t337, t338⟩, A230, H⟩ := H
     replace H : ((hopmeshref34_First.f kj6 a0_0 l0_1 a0_2 a0_3 l0_4 l0_5 l1).bind fun bt339 => (if t337 = bt339.1 then (if (t338 == bt339.2) = true then ((conflict_Good.f kj6 a0_0 l0_1 a0_2 a0_3 l0_4 l0_5 l1).bind fun t341 => ((hopmeshref34_Good.f kj6 a0_0 l0_1 a0_2 a0_3 l0_4 l0_5 l1).bind fun t342 => (if (t341 == t342) = true then ((conflict_Together.f kj6 a0_0 l0_1 a0_2 a0_3 l0_4 l0_5 a2_0 a2_1 a2_2 a3_0 a3_1 a3_2).bind fun t343 => ((hopmeshref34_Together.f kj6 a0_0 l0_1 a0_2 a0_3 l0_4 l0_5 a2_0 a2_1 a2_2 a3_0 a3_1 a3_2).bind fun t344 => (some (t343 == t344)))) else (some false)))) else (some false)) else (some false))) = some r := H
     have A23 := Aside0.mk A230
     clear A230
     replace H := Option.bind_eq_some_iff.mp H
     obtain ⟨⟨t339, t340⟩, A240, H⟩ := H
     replace H : (if t337 = t339 then (if (t338 == t340) = true then ((conflict_Good.f kj6 a0_0 l0_1 a0_2 a0_3 l0_4 l0_5 l1).bind fun t341 => ((hopmeshref34_Good.f kj6 a0_0 l0_1 a0_2 a0_3 l0_4 l0_5 l1).bind fun t342 => (if (t341 == t342) = true then ((conflict_Together.f kj6 a0_0 l0_1 a0_2 a0_3 l0_4 l0_5 a2_0 a2_1 a2_2 a3_0 a3_1 a3_2).bind fun t343 => ((hopmeshref34_Together.f kj6 a0_0 l0_1 a0_2 a0_3 l0_4 l0_5 a2_0 a2_1 a2_2 a3_0 a3_1 a3_2).bind fun t344 => (some (t343 == t344)))) else (some false)))) else (some false)) else (some false)) = some r := H
     have A24 := Aside0.mk A240
     clear A240
     by_cases c25 : t337 = t339
     ·
      rw [if_pos c25] at H
      have c25b0 : (t337 == t339) = true := beq_iff_eq.mpr c25
      have c25b1 : (t337 != t339) = false := bne_eq_false_iff_eq.mpr c25
      clear c25
      by_cases c26 : (t338 == t340) = true
      ·
       rw [if_pos c26] at H
       have c26b0 : (t338 == t340) = true := c26
       (try (have c26b1 : decide (t338 = t340) = true := by simpa using c26))
       (try (have c26b2 : (t338 == t340) = true := by simpa using c26))
       clear c26
       replace H := Option.bind_eq_some_iff.mp H
       obtain ⟨t341, A270, H⟩ := H
       replace H : ((hopmeshref34_Good.f kj6 a0_0 l0_1 a0_2 a0_3 l0_4 l0_5 l1).bind fun t342 => (if (t341 == t342) = true then ((conflict_Together.f kj6 a0_0 l0_1 a0_2 a0_3 l0_4 l0_5 a2_0 a2_1 a2_2 a3_0 a3_1 a3_2).bind fun t343 => ((hopmeshref34_Together.f kj6 a0_0 l0_1 a0_2 a0_3 l0_4 l0_5 a2_0 a2_1 a2_2 a3_0 a3_1 a3_2).bind fun t344 => (some (t343 == t344)))) else (some false))) = some r := H
       have A27 := Aside0.mk A270
       clear A270
       replace H := Option.bind_eq_some_iff.mp H
       obtain ⟨t342, A280, H⟩ := H
       replace H : (if (t341 == t342) = true then ((conflict_Together.f kj6 a0_0 l0_1 a0_2 a0_3 l0_4 l0_5 a2_0 a2_1 a2_2 a3_0 a3_1 a3_2).bind fun t343 => ((hopmeshref34_Together.f kj6 a0_0 l0_1 a0_2 a0_3 l0_4 l0_5 a2_0 a2_1 a2_2 a3_0 a3_1 a3_2).bind fun t344 => (some (t343 == t344)))) else (some false)) = some r := H
       have A28 := Aside0.mk A280
       clear A280
       by_cases c29 : (t341 == t342) = true
       ·
        rw [if_pos c29] at H
        have c29b0 : (t341 == t342) = true := c29
        (try (have c29b1 : decide (t341 = t342) = true := by simpa using c29))
        (try (have c29b2 : (t341 == t342) = true := by simpa using c29))
        clear c29
        replace H := Option.bind_eq_some_iff.mp H
        obtain ⟨t343, A300, H⟩ := H
        replace H : ((hopmeshref34_Together.f kj6 a0_0 l0_1 a0_2 a0_3 l0_4 l0_5 a2_0 a2_1 a2_2 a3_0 a3_1 a3_2).bind fun t344 => (some (t343 == t344))) = some r := H
        have A30 := Aside0.mk A300
        clear A300
        replace H := Option.bind_eq_some_iff.mp H
        obtain ⟨t344, A310, H⟩ := H
        replace H : (some (t343 == t344)) = some r := H
        have A31 := Aside0.mk A310
        clear A310
        obtain rfl := Option.some.inj H
        have hnb32 := NB332_333.out
        have hnc32 := NB333_332.out
        have hnb33 := NB332_334.out
        have hnc33 := NB334_332.out
        have hcz34_0 := bc0 BK332
        have hcz34_1 := bc1 BK332
        have hcz34_2 := bc2 BK332
        have hcz34_3 := bc3 BK332
        have hcz34_4 := bc4 BK332
        have hcz34_5 := bc5 BK332
        have hfz34_0 := blk_frozen BK332.out 0
        have hfz34_1 := blk_frozen BK332.out 1
        have hfz34_2 := blk_frozen BK332.out 2
        have hfz34_3 := blk_frozen BK332.out 3
        have hfz34_4 := blk_frozen BK332.out 4
        have hfz34_5 := blk_frozen BK332.out 5
        try go_wp2_with (first | ((with_reducible refine gate_callee (f := 20) rfl ?_); refine goesL_ (some 26) rfl rfl Try.func20 (by kernel_rfl) rfl #[.agg #[.int .i64 a0_0, .slice A0_1 l0_1.length c0_1, .int .i64 a0_2, .int .i64 a0_3, .slice A0_4 l0_4.length c0_4, .slice A0_5 l0_5.length c0_5], .slice A1 l1.length c1] rfl (by (try simp only [List.map_toArray, List.map_cons, List.map_nil]); first | done | rfl | (simp only [List.length_drop, List.length_take]; rfl)) ?_; (with_reducible refine (conflict_First.calls kj6 a0_0 _ _ l0_1 a0_2 a0_3 _ _ l0_4 _ _ l0_5 _ _ l1 t337 t338 _ ?side1 ?side2 ?side3 ?side4 ?side5 ?side6 ?side7 ?side8 A23.out).mono ?_); (case side1 | side3 | side5 | side7 => repeat (first | exact (Kd.C_below HR0_1.out HB.out) | exact (Kd.C_below HR0_4.out HB.out) | exact (Kd.C_below HR0_5.out HB.out) | exact (Kd.C_below HR1.out HB.out) | (with_reducible refine Kd.C_alloc ?_ _) | (with_reducible refine Kd.C_drewN ?_ _) | (with_reducible refine Kd.C_drew ?_))); (case side2 | side4 | side6 | side8 => first | exact HC0_1.out | exact HC0_4.out | exact HC0_5.out | exact HC1.out); rintro e w35 ⟨rfl, hb⟩; refine ⟨_, rfl, ?_⟩; have n0_ := Aside0.mk (blk_below (g := gb332) (o := .cells #[.int .i64 a0_0, .slice A0_1 l0_1.length c0_1, .int .i64 a0_2, .int .i64 a0_3, .slice A0_4 l0_4.length c0_4, .slice A0_5 l0_5.length c0_5] 26 (0, 0)) (by (with_reducible repeat (first | refine blk_drewN ?_ _ | refine blk_drew ?_ | refine blk_alloc ?_ _)); exact BK332.out) hb); have n1_ := Aside0.mk (blk_below (g := gb333) (o := .cells #[.int .i64 a2_0, .int .i64 a2_1, .int .i64 a2_2] 44 (0, 0)) (by (with_reducible repeat (first | refine blk_drewN ?_ _ | refine blk_drew ?_ | refine blk_alloc ?_ _)); exact BK333.out) hb); have n2_ := Aside0.mk (blk_below (g := gb334) (o := .cells #[.int .i64 a3_0, .int .i64 a3_1, .int .i64 a3_2] 44 (0, 0)) (by (with_reducible repeat (first | refine blk_drewN ?_ _ | refine blk_drew ?_ | refine blk_alloc ?_ _)); exact BK334.out) hb); have n3_ := Aside0.mk (below_step (by repeat (first | (with_reducible first | exact HB.out | apply below_alloc | apply pw_below_drewN | apply below_drew1 | refine below_set ?_ GE332.out | refine below_set ?_ GE333.out | refine below_set ?_ GE334.out) | exact HB.out)) hb); clear BK332; clear BK333; clear BK334; clear HB; have BK332 := n0_; have BK333 := n1_; have BK334 := n2_; have HB := n3_; clear n0_ n1_ n2_ n3_; (try clear hb); (try clear hb2); (try clear hk); (try clear hi); have hcz36_0 := bc0 BK332; have hcz36_1 := bc1 BK332; have hcz36_2 := bc2 BK332; have hcz36_3 := bc3 BK332; have hcz36_4 := bc4 BK332; have hcz36_5 := bc5 BK332; have hfz36_0 := blk_frozen BK332.out 0; have hfz36_1 := blk_frozen BK332.out 1; have hfz36_2 := blk_frozen BK332.out 2; have hfz36_3 := blk_frozen BK332.out 3; have hfz36_4 := blk_frozen BK332.out 4; have hfz36_5 := blk_frozen BK332.out 5) | ((with_reducible refine gate_callee (f := 21) rfl ?_); refine goesL_ (some 32) rfl rfl Try.func21 (by kernel_rfl) rfl #[.agg #[.int .i64 a0_0, .slice A0_1 l0_1.length c0_1, .int .i64 a0_2, .int .i64 a0_3, .slice A0_4 l0_4.length c0_4, .slice A0_5 l0_5.length c0_5], .slice A1 l1.length c1] rfl (by (try simp only [List.map_toArray, List.map_cons, List.map_nil]); first | done | rfl | (simp only [List.length_drop, List.length_take]; rfl)) ?_; (with_reducible refine (hopmeshref34_First.calls kj6 a0_0 _ _ l0_1 a0_2 a0_3 _ _ l0_4 _ _ l0_5 _ _ l1 t339 t340 _ ?side1 ?side2 ?side3 ?side4 ?side5 ?side6 ?side7 ?side8 A24.out).mono ?_); (case side1 | side3 | side5 | side7 => repeat (first | exact (Kd.C_below HR0_1.out HB.out) | exact (Kd.C_below HR0_4.out HB.out) | exact (Kd.C_below HR0_5.out HB.out) | exact (Kd.C_below HR1.out HB.out) | (with_reducible refine Kd.C_alloc ?_ _) | (with_reducible refine Kd.C_drewN ?_ _) | (with_reducible refine Kd.C_drew ?_))); (case side2 | side4 | side6 | side8 => first | exact HC0_1.out | exact HC0_4.out | exact HC0_5.out | exact HC1.out); rintro e w37 ⟨rfl, hb⟩; refine ⟨_, rfl, ?_⟩; have n0_ := Aside0.mk (blk_below (g := gb332) (o := .cells #[.int .i64 a0_0, .slice A0_1 l0_1.length c0_1, .int .i64 a0_2, .int .i64 a0_3, .slice A0_4 l0_4.length c0_4, .slice A0_5 l0_5.length c0_5] 26 (0, 0)) (by (with_reducible repeat (first | refine blk_drewN ?_ _ | refine blk_drew ?_ | refine blk_alloc ?_ _)); exact BK332.out) hb); have n1_ := Aside0.mk (blk_below (g := gb333) (o := .cells #[.int .i64 a2_0, .int .i64 a2_1, .int .i64 a2_2] 44 (0, 0)) (by (with_reducible repeat (first | refine blk_drewN ?_ _ | refine blk_drew ?_ | refine blk_alloc ?_ _)); exact BK333.out) hb); have n2_ := Aside0.mk (blk_below (g := gb334) (o := .cells #[.int .i64 a3_0, .int .i64 a3_1, .int .i64 a3_2] 44 (0, 0)) (by (with_reducible repeat (first | refine blk_drewN ?_ _ | refine blk_drew ?_ | refine blk_alloc ?_ _)); exact BK334.out) hb); have n3_ := Aside0.mk (below_step (by repeat (first | (with_reducible first | exact HB.out | apply below_alloc | apply pw_below_drewN | apply below_drew1 | refine below_set ?_ GE332.out | refine below_set ?_ GE333.out | refine below_set ?_ GE334.out) | exact HB.out)) hb); clear BK332; clear BK333; clear BK334; clear HB; have BK332 := n0_; have BK333 := n1_; have BK334 := n2_; have HB := n3_; clear n0_ n1_ n2_ n3_; (try clear hb); (try clear hb2); (try clear hk); (try clear hi)))
        have n0_ := Aside0.mk (blk_drew BK332.out)
        have n1_ := Aside0.mk (blk_drew BK333.out)
        have n2_ := Aside0.mk (blk_drew BK334.out)
        have n3_ := Aside0.mk (below_drew1 HB.out)
        clear BK332
        clear BK333
        clear BK334
        clear HB
        have BK332 := n0_
        have BK333 := n1_
        have BK334 := n2_
        have HB := n3_
        clear n0_ n1_ n2_ n3_
        refine start_ (n := 29) (S := fun w' => w'.cell? ⟨gb332, 0, none⟩ = some (.int .i64 a0_0) ∧ w'.cell? ⟨gb332, 1, none⟩ = some (.slice A0_1 l0_1.length c0_1) ∧ w'.cell? ⟨gb332, 2, none⟩ = some (.int .i64 a0_2) ∧ w'.cell? ⟨gb332, 3, none⟩ = some (.int .i64 a0_3) ∧ w'.cell? ⟨gb332, 4, none⟩ = some (.slice A0_4 l0_4.length c0_4) ∧ w'.cell? ⟨gb332, 5, none⟩ = some (.slice A0_5 l0_5.length c0_5) ∧ w'.cell? ⟨gb333, 0, none⟩ = some (.int .i64 a2_0) ∧ w'.cell? ⟨gb333, 1, none⟩ = some (.int .i64 a2_1) ∧ w'.cell? ⟨gb333, 2, none⟩ = some (.int .i64 a2_2) ∧ w'.cell? ⟨gb334, 0, none⟩ = some (.int .i64 a3_0) ∧ w'.cell? ⟨gb334, 1, none⟩ = some (.int .i64 a3_1) ∧ w'.cell? ⟨gb334, 2, none⟩ = some (.int .i64 a3_2)) (ds := []) #[false, false, false, false, false, false, false, false, false, false, false, false, false, false, false, false, false, false, false, false, false, false, false, false, false, false, false, false, false] (by kernel_rfl) rfl rfl ⟨(blk_cell BK332.out 0).trans rfl, (blk_cell BK332.out 1).trans rfl, (blk_cell BK332.out 2).trans rfl, (blk_cell BK332.out 3).trans rfl, (blk_cell BK332.out 4).trans rfl, (blk_cell BK332.out 5).trans rfl, (blk_cell BK333.out 0).trans rfl, (blk_cell BK333.out 1).trans rfl, (blk_cell BK333.out 2).trans rfl, (blk_cell BK334.out 0).trans rfl, (blk_cell BK334.out 1).trans rfl, (blk_cell BK334.out 2).trans rfl⟩ (fun hHeld => ?_); refine with_tabW hopmeshlaw34_ConflictFaults.tab7 hopmeshlaw34_ConflictFaults.bits7 (fun HT_ HW_ => ?_)
        generalize w37.drew = w38 at BK332 BK333 BK334 HB hHeld ⊢
        refine pu_ HT_ 0 35 (bl 29 1) ?_
        refine pu_ HT_ 1 36 (bl 29 3) ?_
        refine pu_ HT_ 2 37 (bl 29 7) ?_
        refine pu_ HT_ 3 38 (bl 29 15) ?_
        refine pu_ HT_ 4 39 (bl 29 31) ?_
        refine pu_ HT_ 5 40 (bl 29 63) ?_
        refine pu_ HT_ 6 41 (bl 29 127) ?_
        refine pu_ HT_ 7 42 (bl 29 255) ?_
        refine pu_ HT_ 8 43 (bl 29 511) ?_
        refine pu_ HT_ 10 45 (bl 29 1535) ?_
        refine pu_ HT_ 13 48 (bl 29 9727) ?_
        refine tk_ HT_ HW_ hHeld 9 44 (bl 29 10239) ?_
        refine tk_ HT_ HW_ hHeld 12 47 (bl 29 14335) ?_
        refine one_ (i := 11) (N := some 46) (bl 29 16383) rfl rfl (one_of HT_.out (by kernel_rfl)) (by decide) (fun K hK => ?_)
        refine goes_ Try.func17 (by kernel_rfl) rfl #[.agg #[.int .i64 a0_0, .slice A0_1 l0_1.length c0_1, .int .i64 a0_2, .int .i64 a0_3, .slice A0_4 l0_4.length c0_4, .slice A0_5 l0_5.length c0_5], .slice A1 l1.length c1] (by rfl) rfl rfl (by (try simp only [List.map_toArray, List.map_cons, List.map_nil]); first | done | rfl | (simp only [List.length_drop, List.length_take]; rfl)) ?_
        with_reducible refine (conflict_Good.calls kj6 a0_0 _ _ l0_1 a0_2 a0_3 _ _ l0_4 _ _ l0_5 _ _ l1 t341 _ ?side1 ?side2 ?side3 ?side4 ?side5 ?side6 ?side7 ?side8 A27.out).mono ?_
        (case side1 | side3 | side5 | side7 => repeat (first | exact (Kd.C_below HR0_1.out HB.out) | exact (Kd.C_below HR0_4.out HB.out) | exact (Kd.C_below HR0_5.out HB.out) | exact (Kd.C_below HR1.out HB.out) | (with_reducible refine Kd.C_alloc ?_ _) | (with_reducible refine Kd.C_drewN ?_ _) | (with_reducible refine Kd.C_drew ?_)))
        (case side2 | side4 | side6 | side8 => first | exact HC0_1.out | exact HC0_4.out | exact HC0_5.out | exact HC1.out)
        rintro e w39 ⟨rfl, hb⟩
        refine ⟨_, rfl, ?_⟩
        have n0_ := Aside0.mk (blk_below (g := gb332) (o := .cells #[.int .i64 a0_0, .slice A0_1 l0_1.length c0_1, .int .i64 a0_2, .int .i64 a0_3, .slice A0_4 l0_4.length c0_4, .slice A0_5 l0_5.length c0_5] 26 (0, 0)) (by (with_reducible repeat (first | refine blk_drewN ?_ _ | refine blk_drew ?_ | refine blk_alloc ?_ _)); exact BK332.out) hb)
        have n1_ := Aside0.mk (blk_below (g := gb333) (o := .cells #[.int .i64 a2_0, .int .i64 a2_1, .int .i64 a2_2] 44 (0, 0)) (by (with_reducible repeat (first | refine blk_drewN ?_ _ | refine blk_drew ?_ | refine blk_alloc ?_ _)); exact BK333.out) hb)
        have n2_ := Aside0.mk (blk_below (g := gb334) (o := .cells #[.int .i64 a3_0, .int .i64 a3_1, .int .i64 a3_2] 44 (0, 0)) (by (with_reducible repeat (first | refine blk_drewN ?_ _ | refine blk_drew ?_ | refine blk_alloc ?_ _)); exact BK334.out) hb)
        have n3_ := Aside0.mk (below_step (by repeat (first | (with_reducible first | exact HB.out | apply below_alloc | apply pw_below_drewN | apply below_drew1 | refine below_set ?_ GE332.out | refine below_set ?_ GE333.out | refine below_set ?_ GE334.out) | exact HB.out)) hb)
        clear BK332
        clear BK333
        clear BK334
        clear HB
        have BK332 := n0_
        have BK333 := n1_
        have BK334 := n2_
        have HB := n3_
        clear n0_ n1_ n2_ n3_
        (try clear hb)
        (try clear hb2)
        (try clear hk)
        (try clear hi)
        refine hK.out _ _ ⟨(blk_cell BK332.out 0).trans rfl, (blk_cell BK332.out 1).trans rfl, (blk_cell BK332.out 2).trans rfl, (blk_cell BK332.out 3).trans rfl, (blk_cell BK332.out 4).trans rfl, (blk_cell BK332.out 5).trans rfl, (blk_cell BK333.out 0).trans rfl, (blk_cell BK333.out 1).trans rfl, (blk_cell BK333.out 2).trans rfl, (blk_cell BK334.out 0).trans rfl, (blk_cell BK334.out 1).trans rfl, (blk_cell BK334.out 2).trans rfl⟩ (fun hHeld => ?_)
        clear hK K
        refine norm_ (a' := ?_) ?_ ?_
        rotate_left
        ·
         show Act.put _ (some 46) _ = _
         simp only [ap_, s0_, s1_, i64_w]
         rfl
        refine one_ (i := 14) (N := some 49) (bl 29 32767) rfl rfl (one_of HT_.out (by kernel_rfl)) (by decide) (fun K hK => ?_)
        refine goes_ Try.func22 (by kernel_rfl) rfl #[.agg #[.int .i64 a0_0, .slice A0_1 l0_1.length c0_1, .int .i64 a0_2, .int .i64 a0_3, .slice A0_4 l0_4.length c0_4, .slice A0_5 l0_5.length c0_5], .slice A1 l1.length c1] (by rfl) rfl rfl (by (try simp only [List.map_toArray, List.map_cons, List.map_nil]); first | done | rfl | (simp only [List.length_drop, List.length_take]; rfl)) ?_
        with_reducible refine (hopmeshref34_Good.calls kj6 a0_0 _ _ l0_1 a0_2 a0_3 _ _ l0_4 _ _ l0_5 _ _ l1 t342 _ ?side1 ?side2 ?side3 ?side4 ?side5 ?side6 ?side7 ?side8 A28.out).mono ?_
        (case side1 | side3 | side5 | side7 => repeat (first | exact (Kd.C_below HR0_1.out HB.out) | exact (Kd.C_below HR0_4.out HB.out) | exact (Kd.C_below HR0_5.out HB.out) | exact (Kd.C_below HR1.out HB.out) | (with_reducible refine Kd.C_alloc ?_ _) | (with_reducible refine Kd.C_drewN ?_ _) | (with_reducible refine Kd.C_drew ?_)))
        (case side2 | side4 | side6 | side8 => first | exact HC0_1.out | exact HC0_4.out | exact HC0_5.out | exact HC1.out)
        rintro e w40 ⟨rfl, hb⟩
        refine ⟨_, rfl, ?_⟩
        have n0_ := Aside0.mk (blk_below (g := gb332) (o := .cells #[.int .i64 a0_0, .slice A0_1 l0_1.length c0_1, .int .i64 a0_2, .int .i64 a0_3, .slice A0_4 l0_4.length c0_4, .slice A0_5 l0_5.length c0_5] 26 (0, 0)) (by (with_reducible repeat (first | refine blk_drewN ?_ _ | refine blk_drew ?_ | refine blk_alloc ?_ _)); exact BK332.out) hb)
        have n1_ := Aside0.mk (blk_below (g := gb333) (o := .cells #[.int .i64 a2_0, .int .i64 a2_1, .int .i64 a2_2] 44 (0, 0)) (by (with_reducible repeat (first | refine blk_drewN ?_ _ | refine blk_drew ?_ | refine blk_alloc ?_ _)); exact BK333.out) hb)
        have n2_ := Aside0.mk (blk_below (g := gb334) (o := .cells #[.int .i64 a3_0, .int .i64 a3_1, .int .i64 a3_2] 44 (0, 0)) (by (with_reducible repeat (first | refine blk_drewN ?_ _ | refine blk_drew ?_ | refine blk_alloc ?_ _)); exact BK334.out) hb)
        have n3_ := Aside0.mk (below_step (by repeat (first | (with_reducible first | exact HB.out | apply below_alloc | apply pw_below_drewN | apply below_drew1 | refine below_set ?_ GE332.out | refine below_set ?_ GE333.out | refine below_set ?_ GE334.out) | exact HB.out)) hb)
        clear BK332
        clear BK333
        clear BK334
        clear HB
        have BK332 := n0_
        have BK333 := n1_
        have BK334 := n2_
        have HB := n3_
        clear n0_ n1_ n2_ n3_
        (try clear hb)
        (try clear hb2)
        (try clear hk)
        (try clear hi)
        refine hK.out _ _ ⟨(blk_cell BK332.out 0).trans rfl, (blk_cell BK332.out 1).trans rfl, (blk_cell BK332.out 2).trans rfl, (blk_cell BK332.out 3).trans rfl, (blk_cell BK332.out 4).trans rfl, (blk_cell BK332.out 5).trans rfl, (blk_cell BK333.out 0).trans rfl, (blk_cell BK333.out 1).trans rfl, (blk_cell BK333.out 2).trans rfl, (blk_cell BK334.out 0).trans rfl, (blk_cell BK334.out 1).trans rfl, (blk_cell BK334.out 2).trans rfl⟩ (fun hHeld => ?_)
        clear hK K
        refine norm_ (a' := ?_) ?_ ?_
        rotate_left
        ·
         show Act.put _ (some 49) _ = _
         simp only [ap_, s0_, s1_, i64_w]
         rfl
        refine pu_ HT_ 15 50 (bl 29 65535) ?_
        refine pu_ HT_ 16 51 (bl 29 131071) ?_
        refine pu_ HT_ 17 52 (bl 29 262143) ?_
        refine tk_ HT_ HW_ hHeld 18 53 (bl 29 524287) ?_
        refine tk_ HT_ HW_ hHeld 19 54 (bl 29 1048575) ?_
        refine tk_ HT_ HW_ hHeld 20 55 (bl 29 2097151) ?_
        refine tk_ HT_ HW_ hHeld 22 57 (bl 29 6291455) ?_
        refine tk_ HT_ HW_ hHeld 23 58 (bl 29 14680063) ?_
        refine tk_ HT_ HW_ hHeld 24 59 (bl 29 31457279) ?_
        refine one_ (i := 21) (N := some 56) (bl 29 33554431) rfl rfl (one_of HT_.out (by kernel_rfl)) (by decide) (fun K hK => ?_)
        refine goes_ Try.func23 (by kernel_rfl) rfl #[.agg #[.int .i64 a0_0, .slice A0_1 l0_1.length c0_1, .int .i64 a0_2, .int .i64 a0_3, .slice A0_4 l0_4.length c0_4, .slice A0_5 l0_5.length c0_5], .agg #[.int .i64 a2_0, .int .i64 a2_1, .int .i64 a2_2], .agg #[.int .i64 a3_0, .int .i64 a3_1, .int .i64 a3_2]] (by rfl) rfl rfl (by (try simp only [List.map_toArray, List.map_cons, List.map_nil]); first | done | rfl | (simp only [List.length_drop, List.length_take]; rfl)) ?_
        with_reducible refine (conflict_Together.calls kj6 a0_0 _ _ l0_1 a0_2 a0_3 _ _ l0_4 _ _ l0_5 a2_0 a2_1 a2_2 a3_0 a3_1 a3_2 t343 _ ?side1 ?side2 ?side3 ?side4 ?side5 ?side6 A30.out).mono ?_
        (case side1 | side3 | side5 => repeat (first | exact (Kd.C_below HR0_1.out HB.out) | exact (Kd.C_below HR0_4.out HB.out) | exact (Kd.C_below HR0_5.out HB.out) | (with_reducible refine Kd.C_alloc ?_ _) | (with_reducible refine Kd.C_drewN ?_ _) | (with_reducible refine Kd.C_drew ?_)))
        (case side2 | side4 | side6 => first | exact HC0_1.out | exact HC0_4.out | exact HC0_5.out)
        rintro e w41 ⟨rfl, hb⟩
        refine ⟨_, rfl, ?_⟩
        have n0_ := Aside0.mk (blk_below (g := gb332) (o := .cells #[.int .i64 a0_0, .slice A0_1 l0_1.length c0_1, .int .i64 a0_2, .int .i64 a0_3, .slice A0_4 l0_4.length c0_4, .slice A0_5 l0_5.length c0_5] 26 (0, 0)) (by (with_reducible repeat (first | refine blk_drewN ?_ _ | refine blk_drew ?_ | refine blk_alloc ?_ _)); exact BK332.out) hb)
        have n1_ := Aside0.mk (blk_below (g := gb333) (o := .cells #[.int .i64 a2_0, .int .i64 a2_1, .int .i64 a2_2] 44 (0, 0)) (by (with_reducible repeat (first | refine blk_drewN ?_ _ | refine blk_drew ?_ | refine blk_alloc ?_ _)); exact BK333.out) hb)
        have n2_ := Aside0.mk (blk_below (g := gb334) (o := .cells #[.int .i64 a3_0, .int .i64 a3_1, .int .i64 a3_2] 44 (0, 0)) (by (with_reducible repeat (first | refine blk_drewN ?_ _ | refine blk_drew ?_ | refine blk_alloc ?_ _)); exact BK334.out) hb)
        have n3_ := Aside0.mk (below_step (by repeat (first | (with_reducible first | exact HB.out | apply below_alloc | apply pw_below_drewN | apply below_drew1 | refine below_set ?_ GE332.out | refine below_set ?_ GE333.out | refine below_set ?_ GE334.out) | exact HB.out)) hb)
        clear BK332
        clear BK333
        clear BK334
        clear HB
        have BK332 := n0_
        have BK333 := n1_
        have BK334 := n2_
        have HB := n3_
        clear n0_ n1_ n2_ n3_
        (try clear hb)
        (try clear hb2)
        (try clear hk)
        (try clear hi)
        refine hK.out _ _ ⟨(blk_cell BK332.out 0).trans rfl, (blk_cell BK332.out 1).trans rfl, (blk_cell BK332.out 2).trans rfl, (blk_cell BK332.out 3).trans rfl, (blk_cell BK332.out 4).trans rfl, (blk_cell BK332.out 5).trans rfl, (blk_cell BK333.out 0).trans rfl, (blk_cell BK333.out 1).trans rfl, (blk_cell BK333.out 2).trans rfl, (blk_cell BK334.out 0).trans rfl, (blk_cell BK334.out 1).trans rfl, (blk_cell BK334.out 2).trans rfl⟩ (fun hHeld => ?_)
        clear hK K
        refine norm_ (a' := ?_) ?_ ?_
        rotate_left
        ·
         show Act.put _ (some 56) _ = _
         simp only [ap_, s0_, s1_, i64_w]
         rfl
        refine one_ (i := 25) (N := some 60) (bl 29 67108863) rfl rfl (one_of HT_.out (by kernel_rfl)) (by decide) (fun K hK => ?_)
        refine goes_ Try.func24 (by kernel_rfl) rfl #[.agg #[.int .i64 a0_0, .slice A0_1 l0_1.length c0_1, .int .i64 a0_2, .int .i64 a0_3, .slice A0_4 l0_4.length c0_4, .slice A0_5 l0_5.length c0_5], .agg #[.int .i64 a2_0, .int .i64 a2_1, .int .i64 a2_2], .agg #[.int .i64 a3_0, .int .i64 a3_1, .int .i64 a3_2]] (by rfl) rfl rfl (by (try simp only [List.map_toArray, List.map_cons, List.map_nil]); first | done | rfl | (simp only [List.length_drop, List.length_take]; rfl)) ?_
        with_reducible refine (hopmeshref34_Together.calls kj6 a0_0 _ _ l0_1 a0_2 a0_3 _ _ l0_4 _ _ l0_5 a2_0 a2_1 a2_2 a3_0 a3_1 a3_2 t344 _ ?side1 ?side2 ?side3 ?side4 ?side5 ?side6 A31.out).mono ?_
        (case side1 | side3 | side5 => repeat (first | exact (Kd.C_below HR0_1.out HB.out) | exact (Kd.C_below HR0_4.out HB.out) | exact (Kd.C_below HR0_5.out HB.out) | (with_reducible refine Kd.C_alloc ?_ _) | (with_reducible refine Kd.C_drewN ?_ _) | (with_reducible refine Kd.C_drew ?_)))
        (case side2 | side4 | side6 => first | exact HC0_1.out | exact HC0_4.out | exact HC0_5.out)
        rintro e w42 ⟨rfl, hb⟩
        refine ⟨_, rfl, ?_⟩
        have n0_ := Aside0.mk (blk_below (g := gb332) (o := .cells #[.int .i64 a0_0, .slice A0_1 l0_1.length c0_1, .int .i64 a0_2, .int .i64 a0_3, .slice A0_4 l0_4.length c0_4, .slice A0_5 l0_5.length c0_5] 26 (0, 0)) (by (with_reducible repeat (first | refine blk_drewN ?_ _ | refine blk_drew ?_ | refine blk_alloc ?_ _)); exact BK332.out) hb)
        have n1_ := Aside0.mk (blk_below (g := gb333) (o := .cells #[.int .i64 a2_0, .int .i64 a2_1, .int .i64 a2_2] 44 (0, 0)) (by (with_reducible repeat (first | refine blk_drewN ?_ _ | refine blk_drew ?_ | refine blk_alloc ?_ _)); exact BK333.out) hb)
        have n2_ := Aside0.mk (blk_below (g := gb334) (o := .cells #[.int .i64 a3_0, .int .i64 a3_1, .int .i64 a3_2] 44 (0, 0)) (by (with_reducible repeat (first | refine blk_drewN ?_ _ | refine blk_drew ?_ | refine blk_alloc ?_ _)); exact BK334.out) hb)
        have n3_ := Aside0.mk (below_step (by repeat (first | (with_reducible first | exact HB.out | apply below_alloc | apply pw_below_drewN | apply below_drew1 | refine below_set ?_ GE332.out | refine below_set ?_ GE333.out | refine below_set ?_ GE334.out) | exact HB.out)) hb)
        clear BK332
        clear BK333
        clear BK334
        clear HB
        have BK332 := n0_
        have BK333 := n1_
        have BK334 := n2_
        have HB := n3_
        clear n0_ n1_ n2_ n3_
        (try clear hb)
        (try clear hb2)
        (try clear hk)
        (try clear hi)
        refine hK.out _ _ ⟨(blk_cell BK332.out 0).trans rfl, (blk_cell BK332.out 1).trans rfl, (blk_cell BK332.out 2).trans rfl, (blk_cell BK332.out 3).trans rfl, (blk_cell BK332.out 4).trans rfl, (blk_cell BK332.out 5).trans rfl, (blk_cell BK333.out 0).trans rfl, (blk_cell BK333.out 1).trans rfl, (blk_cell BK333.out 2).trans rfl, (blk_cell BK334.out 0).trans rfl, (blk_cell BK334.out 1).trans rfl, (blk_cell BK334.out 2).trans rfl⟩ (fun hHeld => ?_)
        clear hK K
        refine norm_ (a' := ?_) ?_ ?_
        rotate_left
        ·
         show Act.put _ (some 60) _ = _
         simp only [ap_, s0_, s1_, i64_w]
         rfl
        refine pu_ HT_ 26 61 (bl 29 134217727) ?_
        refine pu_ HT_ 27 62 (bl 29 268435455) ?_
        refine pu_ HT_ 28 8 (bl 29 536870911) ?_
        refine done_ (done_of HT_.out (by kernel_rfl)) ?_
        try go_wp2
        go_ret
        exact ⟨by first | rfl | (simp [errW_none, errW_some] <;> rfl) | (simp [*, errW_none, errW_some] <;> rfl), by repeat (first | (with_reducible first | exact HB.out | apply below_alloc | apply pw_below_drewN | apply below_drew1 | refine below_set ?_ GE332.out | refine below_set ?_ GE333.out | refine below_set ?_ GE334.out) | exact HB.out)⟩
       ·
        rw [if_neg c29] at H
        have c29b0 : (t341 == t342) = false := by simpa using c29
        (try (have c29b1 : decide (t341 = t342) = false := by simpa using c29))
        (try (have c29b2 : (t341 == t342) = false := by simpa using c29))
        (try (have c29b3 : ¬ (t341 = t342) := by simpa using c29))
        clear c29
        obtain rfl := Option.some.inj H
        have hnb43 := NB332_333.out
        have hnc43 := NB333_332.out
        have hnb44 := NB332_334.out
        have hnc44 := NB334_332.out
        have hcz45_0 := bc0 BK332
        have hcz45_1 := bc1 BK332
        have hcz45_2 := bc2 BK332
        have hcz45_3 := bc3 BK332
        have hcz45_4 := bc4 BK332
        have hcz45_5 := bc5 BK332
        have hfz45_0 := blk_frozen BK332.out 0
        have hfz45_1 := blk_frozen BK332.out 1
        have hfz45_2 := blk_frozen BK332.out 2
        have hfz45_3 := blk_frozen BK332.out 3
        have hfz45_4 := blk_frozen BK332.out 4
        have hfz45_5 := blk_frozen BK332.out 5
        try go_wp2_with (first | ((with_reducible refine gate_callee (f := 20) rfl ?_); refine goesL_ (some 26) rfl rfl Try.func20 (by kernel_rfl) rfl #[.agg #[.int .i64 a0_0, .slice A0_1 l0_1.length c0_1, .int .i64 a0_2, .int .i64 a0_3, .slice A0_4 l0_4.length c0_4, .slice A0_5 l0_5.length c0_5], .slice A1 l1.length c1] rfl (by (try simp only [List.map_toArray, List.map_cons, List.map_nil]); first | done | rfl | (simp only [List.length_drop, List.length_take]; rfl)) ?_; (with_reducible refine (conflict_First.calls kj6 a0_0 _ _ l0_1 a0_2 a0_3 _ _ l0_4 _ _ l0_5 _ _ l1 t337 t338 _ ?side1 ?side2 ?side3 ?side4 ?side5 ?side6 ?side7 ?side8 A23.out).mono ?_); (case side1 | side3 | side5 | side7 => repeat (first | exact (Kd.C_below HR0_1.out HB.out) | exact (Kd.C_below HR0_4.out HB.out) | exact (Kd.C_below HR0_5.out HB.out) | exact (Kd.C_below HR1.out HB.out) | (with_reducible refine Kd.C_alloc ?_ _) | (with_reducible refine Kd.C_drewN ?_ _) | (with_reducible refine Kd.C_drew ?_))); (case side2 | side4 | side6 | side8 => first | exact HC0_1.out | exact HC0_4.out | exact HC0_5.out | exact HC1.out); rintro e w46 ⟨rfl, hb⟩; refine ⟨_, rfl, ?_⟩; have n0_ := Aside0.mk (blk_below (g := gb332) (o := .cells #[.int .i64 a0_0, .slice A0_1 l0_1.length c0_1, .int .i64 a0_2, .int .i64 a0_3, .slice A0_4 l0_4.length c0_4, .slice A0_5 l0_5.length c0_5] 26 (0, 0)) (by (with_reducible repeat (first | refine blk_drewN ?_ _ | refine blk_drew ?_ | refine blk_alloc ?_ _)); exact BK332.out) hb); have n1_ := Aside0.mk (blk_below (g := gb333) (o := .cells #[.int .i64 a2_0, .int .i64 a2_1, .int .i64 a2_2] 44 (0, 0)) (by (with_reducible repeat (first | refine blk_drewN ?_ _ | refine blk_drew ?_ | refine blk_alloc ?_ _)); exact BK333.out) hb); have n2_ := Aside0.mk (blk_below (g := gb334) (o := .cells #[.int .i64 a3_0, .int .i64 a3_1, .int .i64 a3_2] 44 (0, 0)) (by (with_reducible repeat (first | refine blk_drewN ?_ _ | refine blk_drew ?_ | refine blk_alloc ?_ _)); exact BK334.out) hb); have n3_ := Aside0.mk (below_step (by repeat (first | (with_reducible first | exact HB.out | apply below_alloc | apply pw_below_drewN | apply below_drew1 | refine below_set ?_ GE332.out | refine below_set ?_ GE333.out | refine below_set ?_ GE334.out) | exact HB.out)) hb); clear BK332; clear BK333; clear BK334; clear HB; have BK332 := n0_; have BK333 := n1_; have BK334 := n2_; have HB := n3_; clear n0_ n1_ n2_ n3_; (try clear hb); (try clear hb2); (try clear hk); (try clear hi); have hcz47_0 := bc0 BK332; have hcz47_1 := bc1 BK332; have hcz47_2 := bc2 BK332; have hcz47_3 := bc3 BK332; have hcz47_4 := bc4 BK332; have hcz47_5 := bc5 BK332; have hfz47_0 := blk_frozen BK332.out 0; have hfz47_1 := blk_frozen BK332.out 1; have hfz47_2 := blk_frozen BK332.out 2; have hfz47_3 := blk_frozen BK332.out 3; have hfz47_4 := blk_frozen BK332.out 4; have hfz47_5 := blk_frozen BK332.out 5) | ((with_reducible refine gate_callee (f := 21) rfl ?_); refine goesL_ (some 32) rfl rfl Try.func21 (by kernel_rfl) rfl #[.agg #[.int .i64 a0_0, .slice A0_1 l0_1.length c0_1, .int .i64 a0_2, .int .i64 a0_3, .slice A0_4 l0_4.length c0_4, .slice A0_5 l0_5.length c0_5], .slice A1 l1.length c1] rfl (by (try simp only [List.map_toArray, List.map_cons, List.map_nil]); first | done | rfl | (simp only [List.length_drop, List.length_take]; rfl)) ?_; (with_reducible refine (hopmeshref34_First.calls kj6 a0_0 _ _ l0_1 a0_2 a0_3 _ _ l0_4 _ _ l0_5 _ _ l1 t339 t340 _ ?side1 ?side2 ?side3 ?side4 ?side5 ?side6 ?side7 ?side8 A24.out).mono ?_); (case side1 | side3 | side5 | side7 => repeat (first | exact (Kd.C_below HR0_1.out HB.out) | exact (Kd.C_below HR0_4.out HB.out) | exact (Kd.C_below HR0_5.out HB.out) | exact (Kd.C_below HR1.out HB.out) | (with_reducible refine Kd.C_alloc ?_ _) | (with_reducible refine Kd.C_drewN ?_ _) | (with_reducible refine Kd.C_drew ?_))); (case side2 | side4 | side6 | side8 => first | exact HC0_1.out | exact HC0_4.out | exact HC0_5.out | exact HC1.out); rintro e w48 ⟨rfl, hb⟩; refine ⟨_, rfl, ?_⟩; have n0_ := Aside0.mk (blk_below (g := gb332) (o := .cells #[.int .i64 a0_0, .slice A0_1 l0_1.length c0_1, .int .i64 a0_2, .int .i64 a0_3, .slice A0_4 l0_4.length c0_4, .slice A0_5 l0_5.length c0_5] 26 (0, 0)) (by (with_reducible repeat (first | refine blk_drewN ?_ _ | refine blk_drew ?_ | refine blk_alloc ?_ _)); exact BK332.out) hb); have n1_ := Aside0.mk (blk_below (g := gb333) (o := .cells #[.int .i64 a2_0, .int .i64 a2_1, .int .i64 a2_2] 44 (0, 0)) (by (with_reducible repeat (first | refine blk_drewN ?_ _ | refine blk_drew ?_ | refine blk_alloc ?_ _)); exact BK333.out) hb); have n2_ := Aside0.mk (blk_below (g := gb334) (o := .cells #[.int .i64 a3_0, .int .i64 a3_1, .int .i64 a3_2] 44 (0, 0)) (by (with_reducible repeat (first | refine blk_drewN ?_ _ | refine blk_drew ?_ | refine blk_alloc ?_ _)); exact BK334.out) hb); have n3_ := Aside0.mk (below_step (by repeat (first | (with_reducible first | exact HB.out | apply below_alloc | apply pw_below_drewN | apply below_drew1 | refine below_set ?_ GE332.out | refine below_set ?_ GE333.out | refine below_set ?_ GE334.out) | exact HB.out)) hb); clear BK332; clear BK333; clear BK334; clear HB; have BK332 := n0_; have BK333 := n1_; have BK334 := n2_; have HB := n3_; clear n0_ n1_ n2_ n3_; (try clear hb); (try clear hb2); (try clear hk); (try clear hi)))
        have n0_ := Aside0.mk (blk_drew BK332.out)
        have n1_ := Aside0.mk (blk_drew BK333.out)
        have n2_ := Aside0.mk (blk_drew BK334.out)
        have n3_ := Aside0.mk (below_drew1 HB.out)
        clear BK332
        clear BK333
        clear BK334
        clear HB
        have BK332 := n0_
        have BK333 := n1_
        have BK334 := n2_
        have HB := n3_
        clear n0_ n1_ n2_ n3_
        refine start_ (n := 29) (S := fun w' => w'.cell? ⟨gb332, 0, none⟩ = some (.int .i64 a0_0) ∧ w'.cell? ⟨gb332, 1, none⟩ = some (.slice A0_1 l0_1.length c0_1) ∧ w'.cell? ⟨gb332, 2, none⟩ = some (.int .i64 a0_2) ∧ w'.cell? ⟨gb332, 3, none⟩ = some (.int .i64 a0_3) ∧ w'.cell? ⟨gb332, 4, none⟩ = some (.slice A0_4 l0_4.length c0_4) ∧ w'.cell? ⟨gb332, 5, none⟩ = some (.slice A0_5 l0_5.length c0_5)) (ds := []) #[false, false, false, false, false, false, false, false, false, false, false, false, false, false, false, false, false, false, false, false, false, false, false, false, false, false, false, false, false] (by kernel_rfl) rfl rfl ⟨(blk_cell BK332.out 0).trans rfl, (blk_cell BK332.out 1).trans rfl, (blk_cell BK332.out 2).trans rfl, (blk_cell BK332.out 3).trans rfl, (blk_cell BK332.out 4).trans rfl, (blk_cell BK332.out 5).trans rfl⟩ (fun hHeld => ?_); refine with_tabW hopmeshlaw34_ConflictFaults.tab7 hopmeshlaw34_ConflictFaults.bits7 (fun HT_ HW_ => ?_)
        generalize w48.drew = w49 at BK332 BK333 BK334 HB hHeld ⊢
        refine pu_ HT_ 0 35 (bl 29 1) ?_
        refine pu_ HT_ 1 36 (bl 29 3) ?_
        refine pu_ HT_ 2 37 (bl 29 7) ?_
        refine pu_ HT_ 3 38 (bl 29 15) ?_
        refine pu_ HT_ 4 39 (bl 29 31) ?_
        refine pu_ HT_ 5 40 (bl 29 63) ?_
        refine pu_ HT_ 6 41 (bl 29 127) ?_
        refine pu_ HT_ 7 42 (bl 29 255) ?_
        refine pu_ HT_ 8 43 (bl 29 511) ?_
        refine pu_ HT_ 10 45 (bl 29 1535) ?_
        refine pu_ HT_ 13 48 (bl 29 9727) ?_
        refine tk_ HT_ HW_ hHeld 9 44 (bl 29 10239) ?_
        refine tk_ HT_ HW_ hHeld 12 47 (bl 29 14335) ?_
        refine one_ (i := 11) (N := some 46) (bl 29 16383) rfl rfl (one_of HT_.out (by kernel_rfl)) (by decide) (fun K hK => ?_)
        refine goes_ Try.func17 (by kernel_rfl) rfl #[.agg #[.int .i64 a0_0, .slice A0_1 l0_1.length c0_1, .int .i64 a0_2, .int .i64 a0_3, .slice A0_4 l0_4.length c0_4, .slice A0_5 l0_5.length c0_5], .slice A1 l1.length c1] (by rfl) rfl rfl (by (try simp only [List.map_toArray, List.map_cons, List.map_nil]); first | done | rfl | (simp only [List.length_drop, List.length_take]; rfl)) ?_
        with_reducible refine (conflict_Good.calls kj6 a0_0 _ _ l0_1 a0_2 a0_3 _ _ l0_4 _ _ l0_5 _ _ l1 t341 _ ?side1 ?side2 ?side3 ?side4 ?side5 ?side6 ?side7 ?side8 A27.out).mono ?_
        (case side1 | side3 | side5 | side7 => repeat (first | exact (Kd.C_below HR0_1.out HB.out) | exact (Kd.C_below HR0_4.out HB.out) | exact (Kd.C_below HR0_5.out HB.out) | exact (Kd.C_below HR1.out HB.out) | (with_reducible refine Kd.C_alloc ?_ _) | (with_reducible refine Kd.C_drewN ?_ _) | (with_reducible refine Kd.C_drew ?_)))
        (case side2 | side4 | side6 | side8 => first | exact HC0_1.out | exact HC0_4.out | exact HC0_5.out | exact HC1.out)
        rintro e w50 ⟨rfl, hb⟩
        refine ⟨_, rfl, ?_⟩
        have n0_ := Aside0.mk (blk_below (g := gb332) (o := .cells #[.int .i64 a0_0, .slice A0_1 l0_1.length c0_1, .int .i64 a0_2, .int .i64 a0_3, .slice A0_4 l0_4.length c0_4, .slice A0_5 l0_5.length c0_5] 26 (0, 0)) (by (with_reducible repeat (first | refine blk_drewN ?_ _ | refine blk_drew ?_ | refine blk_alloc ?_ _)); exact BK332.out) hb)
        have n1_ := Aside0.mk (blk_below (g := gb333) (o := .cells #[.int .i64 a2_0, .int .i64 a2_1, .int .i64 a2_2] 44 (0, 0)) (by (with_reducible repeat (first | refine blk_drewN ?_ _ | refine blk_drew ?_ | refine blk_alloc ?_ _)); exact BK333.out) hb)
        have n2_ := Aside0.mk (blk_below (g := gb334) (o := .cells #[.int .i64 a3_0, .int .i64 a3_1, .int .i64 a3_2] 44 (0, 0)) (by (with_reducible repeat (first | refine blk_drewN ?_ _ | refine blk_drew ?_ | refine blk_alloc ?_ _)); exact BK334.out) hb)
        have n3_ := Aside0.mk (below_step (by repeat (first | (with_reducible first | exact HB.out | apply below_alloc | apply pw_below_drewN | apply below_drew1 | refine below_set ?_ GE332.out | refine below_set ?_ GE333.out | refine below_set ?_ GE334.out) | exact HB.out)) hb)
        clear BK332
        clear BK333
        clear BK334
        clear HB
        have BK332 := n0_
        have BK333 := n1_
        have BK334 := n2_
        have HB := n3_
        clear n0_ n1_ n2_ n3_
        (try clear hb)
        (try clear hb2)
        (try clear hk)
        (try clear hi)
        refine hK.out _ _ ⟨(blk_cell BK332.out 0).trans rfl, (blk_cell BK332.out 1).trans rfl, (blk_cell BK332.out 2).trans rfl, (blk_cell BK332.out 3).trans rfl, (blk_cell BK332.out 4).trans rfl, (blk_cell BK332.out 5).trans rfl⟩ (fun hHeld => ?_)
        clear hK K
        refine norm_ (a' := ?_) ?_ ?_
        rotate_left
        ·
         show Act.put _ (some 46) _ = _
         simp only [ap_, s0_, s1_, i64_w]
         rfl
        refine one_ (i := 14) (N := some 49) (bl 29 32767) rfl rfl (one_of HT_.out (by kernel_rfl)) (by decide) (fun K hK => ?_)
        refine goes_ Try.func22 (by kernel_rfl) rfl #[.agg #[.int .i64 a0_0, .slice A0_1 l0_1.length c0_1, .int .i64 a0_2, .int .i64 a0_3, .slice A0_4 l0_4.length c0_4, .slice A0_5 l0_5.length c0_5], .slice A1 l1.length c1] (by rfl) rfl rfl (by (try simp only [List.map_toArray, List.map_cons, List.map_nil]); first | done | rfl | (simp only [List.length_drop, List.length_take]; rfl)) ?_
        with_reducible refine (hopmeshref34_Good.calls kj6 a0_0 _ _ l0_1 a0_2 a0_3 _ _ l0_4 _ _ l0_5 _ _ l1 t342 _ ?side1 ?side2 ?side3 ?side4 ?side5 ?side6 ?side7 ?side8 A28.out).mono ?_
        (case side1 | side3 | side5 | side7 => repeat (first | exact (Kd.C_below HR0_1.out HB.out) | exact (Kd.C_below HR0_4.out HB.out) | exact (Kd.C_below HR0_5.out HB.out) | exact (Kd.C_below HR1.out HB.out) | (with_reducible refine Kd.C_alloc ?_ _) | (with_reducible refine Kd.C_drewN ?_ _) | (with_reducible refine Kd.C_drew ?_)))
        (case side2 | side4 | side6 | side8 => first | exact HC0_1.out | exact HC0_4.out | exact HC0_5.out | exact HC1.out)
        rintro e w51 ⟨rfl, hb⟩
        refine ⟨_, rfl, ?_⟩
        have n0_ := Aside0.mk (blk_below (g := gb332) (o := .cells #[.int .i64 a0_0, .slice A0_1 l0_1.length c0_1, .int .i64 a0_2, .int .i64 a0_3, .slice A0_4 l0_4.length c0_4, .slice A0_5 l0_5.length c0_5] 26 (0, 0)) (by (with_reducible repeat (first | refine blk_drewN ?_ _ | refine blk_drew ?_ | refine blk_alloc ?_ _)); exact BK332.out) hb)
        have n1_ := Aside0.mk (blk_below (g := gb333) (o := .cells #[.int .i64 a2_0, .int .i64 a2_1, .int .i64 a2_2] 44 (0, 0)) (by (with_reducible repeat (first | refine blk_drewN ?_ _ | refine blk_drew ?_ | refine blk_alloc ?_ _)); exact BK333.out) hb)
        have n2_ := Aside0.mk (blk_below (g := gb334) (o := .cells #[.int .i64 a3_0, .int .i64 a3_1, .int .i64 a3_2] 44 (0, 0)) (by (with_reducible repeat (first | refine blk_drewN ?_ _ | refine blk_drew ?_ | refine blk_alloc ?_ _)); exact BK334.out) hb)
        have n3_ := Aside0.mk (below_step (by repeat (first | (with_reducible first | exact HB.out | apply below_alloc | apply pw_below_drewN | apply below_drew1 | refine below_set ?_ GE332.out | refine below_set ?_ GE333.out | refine below_set ?_ GE334.out) | exact HB.out)) hb)
        clear BK332
        clear BK333
        clear BK334
        clear HB
        have BK332 := n0_
        have BK333 := n1_
        have BK334 := n2_
        have HB := n3_
        clear n0_ n1_ n2_ n3_
        (try clear hb)
        (try clear hb2)
        (try clear hk)
        (try clear hi)
        refine hK.out _ _ ⟨(blk_cell BK332.out 0).trans rfl, (blk_cell BK332.out 1).trans rfl, (blk_cell BK332.out 2).trans rfl, (blk_cell BK332.out 3).trans rfl, (blk_cell BK332.out 4).trans rfl, (blk_cell BK332.out 5).trans rfl⟩ (fun hHeld => ?_)
        clear hK K
        refine norm_ (a' := ?_) ?_ ?_
        rotate_left
        ·
         show Act.put _ (some 49) _ = _
         simp only [ap_, s0_, s1_, i64_w]
         rfl
        refine pu_ HT_ 15 50 (bl 29 65535) ?_
        refine pu_ HT_ 16 51 (bl 29 131071) ?_
        refine pu_ HT_ 17 52 (bl 29 262143) ?_
        refine of_ HT_ 18 53 (bl 29 524287) ?_
        refine of_ HT_ 19 54 (bl 29 1048575) ?_
        refine of_ HT_ 20 55 (bl 29 2097151) ?_
        refine of_ HT_ 21 56 (bl 29 4194303) ?_
        refine of_ HT_ 22 57 (bl 29 8388607) ?_
        refine of_ HT_ 23 58 (bl 29 16777215) ?_
        refine of_ HT_ 24 59 (bl 29 33554431) ?_
        refine of_ HT_ 25 60 (bl 29 67108863) ?_
        refine of_ HT_ 26 61 (bl 29 134217727) ?_
        refine pu_ HT_ 27 62 (bl 29 268435455) ?_
        refine pu_ HT_ 28 8 (bl 29 536870911) ?_
        refine done_ (done_of HT_.out (by kernel_rfl)) ?_
        try go_wp2
        go_ret
        exact ⟨by first | rfl | (simp [errW_none, errW_some] <;> rfl) | (simp [*, errW_none, errW_some] <;> rfl), by repeat (first | (with_reducible first | exact HB.out | apply below_alloc | apply pw_below_drewN | apply below_drew1 | refine below_set ?_ GE332.out | refine below_set ?_ GE333.out | refine below_set ?_ GE334.out) | exact HB.out)⟩
      ·
       rw [if_neg c26] at H
       have c26b0 : (t338 == t340) = false := by simpa using c26
       (try (have c26b1 : decide (t338 = t340) = false := by simpa using c26))
       (try (have c26b2 : (t338 == t340) = false := by simpa using c26))
       (try (have c26b3 : ¬ (t338 = t340) := by simpa using c26))
       clear c26
       obtain rfl := Option.some.inj H
       have hnb52 := NB332_333.out
       have hnc52 := NB333_332.out
       have hnb53 := NB332_334.out
       have hnc53 := NB334_332.out
       have hcz54_0 := bc0 BK332
       have hcz54_1 := bc1 BK332
       have hcz54_2 := bc2 BK332
       have hcz54_3 := bc3 BK332
       have hcz54_4 := bc4 BK332
       have hcz54_5 := bc5 BK332
       have hfz54_0 := blk_frozen BK332.out 0
       have hfz54_1 := blk_frozen BK332.out 1
       have hfz54_2 := blk_frozen BK332.out 2
       have hfz54_3 := blk_frozen BK332.out 3
       have hfz54_4 := blk_frozen BK332.out 4
       have hfz54_5 := blk_frozen BK332.out 5
       try go_wp2_with (first | ((with_reducible refine gate_callee (f := 20) rfl ?_); refine goesL_ (some 26) rfl rfl Try.func20 (by kernel_rfl) rfl #[.agg #[.int .i64 a0_0, .slice A0_1 l0_1.length c0_1, .int .i64 a0_2, .int .i64 a0_3, .slice A0_4 l0_4.length c0_4, .slice A0_5 l0_5.length c0_5], .slice A1 l1.length c1] rfl (by (try simp only [List.map_toArray, List.map_cons, List.map_nil]); first | done | rfl | (simp only [List.length_drop, List.length_take]; rfl)) ?_; (with_reducible refine (conflict_First.calls kj6 a0_0 _ _ l0_1 a0_2 a0_3 _ _ l0_4 _ _ l0_5 _ _ l1 t337 t338 _ ?side1 ?side2 ?side3 ?side4 ?side5 ?side6 ?side7 ?side8 A23.out).mono ?_); (case side1 | side3 | side5 | side7 => repeat (first | exact (Kd.C_below HR0_1.out HB.out) | exact (Kd.C_below HR0_4.out HB.out) | exact (Kd.C_below HR0_5.out HB.out) | exact (Kd.C_below HR1.out HB.out) | (with_reducible refine Kd.C_alloc ?_ _) | (with_reducible refine Kd.C_drewN ?_ _) | (with_reducible refine Kd.C_drew ?_))); (case side2 | side4 | side6 | side8 => first | exact HC0_1.out | exact HC0_4.out | exact HC0_5.out | exact HC1.out); rintro e w55 ⟨rfl, hb⟩; refine ⟨_, rfl, ?_⟩; have n0_ := Aside0.mk (blk_below (g := gb332) (o := .cells #[.int .i64 a0_0, .slice A0_1 l0_1.length c0_1, .int .i64 a0_2, .int .i64 a0_3, .slice A0_4 l0_4.length c0_4, .slice A0_5 l0_5.length c0_5] 26 (0, 0)) (by (with_reducible repeat (first | refine blk_drewN ?_ _ | refine blk_drew ?_ | refine blk_alloc ?_ _)); exact BK332.out) hb); have n1_ := Aside0.mk (blk_below (g := gb333) (o := .cells #[.int .i64 a2_0, .int .i64 a2_1, .int .i64 a2_2] 44 (0, 0)) (by (with_reducible repeat (first | refine blk_drewN ?_ _ | refine blk_drew ?_ | refine blk_alloc ?_ _)); exact BK333.out) hb); have n2_ := Aside0.mk (blk_below (g := gb334) (o := .cells #[.int .i64 a3_0, .int .i64 a3_1, .int .i64 a3_2] 44 (0, 0)) (by (with_reducible repeat (first | refine blk_drewN ?_ _ | refine blk_drew ?_ | refine blk_alloc ?_ _)); exact BK334.out) hb); have n3_ := Aside0.mk (below_step (by repeat (first | (with_reducible first | exact HB.out | apply below_alloc | apply pw_below_drewN | apply below_drew1 | refine below_set ?_ GE332.out | refine below_set ?_ GE333.out | refine below_set ?_ GE334.out) | exact HB.out)) hb); clear BK332; clear BK333; clear BK334; clear HB; have BK332 := n0_; have BK333 := n1_; have BK334 := n2_; have HB := n3_; clear n0_ n1_ n2_ n3_; (try clear hb); (try clear hb2); (try clear hk); (try clear hi); have hcz56_0 := bc0 BK332; have hcz56_1 := bc1 BK332; have hcz56_2 := bc2 BK332; have hcz56_3 := bc3 BK332; have hcz56_4 := bc4 BK332; have hcz56_5 := bc5 BK332; have hfz56_0 := blk_frozen BK332.out 0; have hfz56_1 := blk_frozen BK332.out 1; have hfz56_2 := blk_frozen BK332.out 2; have hfz56_3 := blk_frozen BK332.out 3; have hfz56_4 := blk_frozen BK332.out 4; have hfz56_5 := blk_frozen BK332.out 5) | ((with_reducible refine gate_callee (f := 21) rfl ?_); refine goesL_ (some 32) rfl rfl Try.func21 (by kernel_rfl) rfl #[.agg #[.int .i64 a0_0, .slice A0_1 l0_1.length c0_1, .int .i64 a0_2, .int .i64 a0_3, .slice A0_4 l0_4.length c0_4, .slice A0_5 l0_5.length c0_5], .slice A1 l1.length c1] rfl (by (try simp only [List.map_toArray, List.map_cons, List.map_nil]); first | done | rfl | (simp only [List.length_drop, List.length_take]; rfl)) ?_; (with_reducible refine (hopmeshref34_First.calls kj6 a0_0 _ _ l0_1 a0_2 a0_3 _ _ l0_4 _ _ l0_5 _ _ l1 t339 t340 _ ?side1 ?side2 ?side3 ?side4 ?side5 ?side6 ?side7 ?side8 A24.out).mono ?_); (case side1 | side3 | side5 | side7 => repeat (first | exact (Kd.C_below HR0_1.out HB.out) | exact (Kd.C_below HR0_4.out HB.out) | exact (Kd.C_below HR0_5.out HB.out) | exact (Kd.C_below HR1.out HB.out) | (with_reducible refine Kd.C_alloc ?_ _) | (with_reducible refine Kd.C_drewN ?_ _) | (with_reducible refine Kd.C_drew ?_))); (case side2 | side4 | side6 | side8 => first | exact HC0_1.out | exact HC0_4.out | exact HC0_5.out | exact HC1.out); rintro e w57 ⟨rfl, hb⟩; refine ⟨_, rfl, ?_⟩; have n0_ := Aside0.mk (blk_below (g := gb332) (o := .cells #[.int .i64 a0_0, .slice A0_1 l0_1.length c0_1, .int .i64 a0_2, .int .i64 a0_3, .slice A0_4 l0_4.length c0_4, .slice A0_5 l0_5.length c0_5] 26 (0, 0)) (by (with_reducible repeat (first | refine blk_drewN ?_ _ | refine blk_drew ?_ | refine blk_alloc ?_ _)); exact BK332.out) hb); have n1_ := Aside0.mk (blk_below (g := gb333) (o := .cells #[.int .i64 a2_0, .int .i64 a2_1, .int .i64 a2_2] 44 (0, 0)) (by (with_reducible repeat (first | refine blk_drewN ?_ _ | refine blk_drew ?_ | refine blk_alloc ?_ _)); exact BK333.out) hb); have n2_ := Aside0.mk (blk_below (g := gb334) (o := .cells #[.int .i64 a3_0, .int .i64 a3_1, .int .i64 a3_2] 44 (0, 0)) (by (with_reducible repeat (first | refine blk_drewN ?_ _ | refine blk_drew ?_ | refine blk_alloc ?_ _)); exact BK334.out) hb); have n3_ := Aside0.mk (below_step (by repeat (first | (with_reducible first | exact HB.out | apply below_alloc | apply pw_below_drewN | apply below_drew1 | refine below_set ?_ GE332.out | refine below_set ?_ GE333.out | refine below_set ?_ GE334.out) | exact HB.out)) hb); clear BK332; clear BK333; clear BK334; clear HB; have BK332 := n0_; have BK333 := n1_; have BK334 := n2_; have HB := n3_; clear n0_ n1_ n2_ n3_; (try clear hb); (try clear hb2); (try clear hk); (try clear hi)))
       have n0_ := Aside0.mk (blk_drew BK332.out)
       have n1_ := Aside0.mk (blk_drew BK333.out)
       have n2_ := Aside0.mk (blk_drew BK334.out)
       have n3_ := Aside0.mk (below_drew1 HB.out)
       clear BK332
       clear BK333
       clear BK334
       clear HB
       have BK332 := n0_
       have BK333 := n1_
       have BK334 := n2_
       have HB := n3_
       clear n0_ n1_ n2_ n3_
       refine start_ (n := 29) (S := fun w' => True) (ds := []) #[false, false, false, false, false, false, false, false, false, false, false, false, false, false, false, false, false, false, false, false, false, false, false, false, false, false, false, false, false] (by kernel_rfl) rfl rfl trivial (fun hHeld => ?_); refine with_tabW hopmeshlaw34_ConflictFaults.tab7 hopmeshlaw34_ConflictFaults.bits7 (fun HT_ HW_ => ?_)
       generalize w57.drew = w58 at BK332 BK333 BK334 HB hHeld ⊢
       refine pu_ HT_ 0 35 (bl 29 1) ?_
       refine pu_ HT_ 1 36 (bl 29 3) ?_
       refine pu_ HT_ 2 37 (bl 29 7) ?_
       refine pu_ HT_ 3 38 (bl 29 15) ?_
       refine pu_ HT_ 4 39 (bl 29 31) ?_
       refine pu_ HT_ 5 40 (bl 29 63) ?_
       refine pu_ HT_ 6 41 (bl 29 127) ?_
       refine pu_ HT_ 7 42 (bl 29 255) ?_
       refine pu_ HT_ 8 43 (bl 29 511) ?_
       refine of_ HT_ 9 44 (bl 29 1023) ?_
       refine of_ HT_ 10 45 (bl 29 2047) ?_
       refine of_ HT_ 11 46 (bl 29 4095) ?_
       refine of_ HT_ 12 47 (bl 29 8191) ?_
       refine of_ HT_ 13 48 (bl 29 16383) ?_
       refine of_ HT_ 14 49 (bl 29 32767) ?_
       refine of_ HT_ 15 50 (bl 29 65535) ?_
       refine pu_ HT_ 16 51 (bl 29 131071) ?_
       refine pu_ HT_ 17 52 (bl 29 262143) ?_
       refine of_ HT_ 18 53 (bl 29 524287) ?_
       refine of_ HT_ 19 54 (bl 29 1048575) ?_
       refine of_ HT_ 20 55 (bl 29 2097151) ?_
       refine of_ HT_ 21 56 (bl 29 4194303) ?_
       refine of_ HT_ 22 57 (bl 29 8388607) ?_
       refine of_ HT_ 23 58 (bl 29 16777215) ?_
       refine of_ HT_ 24 59 (bl 29 33554431) ?_
       refine of_ HT_ 25 60 (bl 29 67108863) ?_
       refine of_ HT_ 26 61 (bl 29 134217727) ?_
       refine pu_ HT_ 27 62 (bl 29 268435455) ?_
       refine pu_ HT_ 28 8 (bl 29 536870911) ?_
       refine done_ (done_of HT_.out (by kernel_rfl)) ?_
       try go_wp2
       go_ret
       exact ⟨by first | rfl | (simp [errW_none, errW_some] <;> rfl) | (simp [*, errW_none, errW_some] <;> rfl), by repeat (first | (with_reducible first | exact HB.out | apply below_alloc | apply pw_below_drewN | apply below_drew1 | refine below_set ?_ GE332.out | refine below_set ?_ GE333.out | refine below_set ?_ GE334.out) | exact HB.out)⟩
     ·
      rw [if_neg c25] at H
      have c25b0 : (t337 == t339) = false := beq_eq_false_iff_ne.mpr c25
      have c25b1 : (t337 != t339) = true := bne_iff_ne.mpr c25
      obtain rfl := Option.some.inj H
      have hnb59 := NB332_333.out
      have hnc59 := NB333_332.out
      have hnb60 := NB332_334.out
      have hnc60 := NB334_332.out
      have hcz61_0 := bc0 BK332
      have hcz61_1 := bc1 BK332
      have hcz61_2 := bc2 BK332
      have hcz61_3 := bc3 BK332
      have hcz61_4 := bc4 BK332
      have hcz61_5 := bc5 BK332
      have hfz61_0 := blk_frozen BK332.out 0
      have hfz61_1 := blk_frozen BK332.out 1
      have hfz61_2 := blk_frozen BK332.out 2
      have hfz61_3 := blk_frozen BK332.out 3
      have hfz61_4 := blk_frozen BK332.out 4
      have hfz61_5 := blk_frozen BK332.out 5
      try go_wp2_with (first | ((with_reducible refine gate_callee (f := 20) rfl ?_); refine goesL_ (some 26) rfl rfl Try.func20 (by kernel_rfl) rfl #[.agg #[.int .i64 a0_0, .slice A0_1 l0_1.length c0_1, .int .i64 a0_2, .int .i64 a0_3, .slice A0_4 l0_4.length c0_4, .slice A0_5 l0_5.length c0_5], .slice A1 l1.length c1] rfl (by (try simp only [List.map_toArray, List.map_cons, List.map_nil]); first | done | rfl | (simp only [List.length_drop, List.length_take]; rfl)) ?_; (with_reducible refine (conflict_First.calls kj6 a0_0 _ _ l0_1 a0_2 a0_3 _ _ l0_4 _ _ l0_5 _ _ l1 t337 t338 _ ?side1 ?side2 ?side3 ?side4 ?side5 ?side6 ?side7 ?side8 A23.out).mono ?_); (case side1 | side3 | side5 | side7 => repeat (first | exact (Kd.C_below HR0_1.out HB.out) | exact (Kd.C_below HR0_4.out HB.out) | exact (Kd.C_below HR0_5.out HB.out) | exact (Kd.C_below HR1.out HB.out) | (with_reducible refine Kd.C_alloc ?_ _) | (with_reducible refine Kd.C_drewN ?_ _) | (with_reducible refine Kd.C_drew ?_))); (case side2 | side4 | side6 | side8 => first | exact HC0_1.out | exact HC0_4.out | exact HC0_5.out | exact HC1.out); rintro e w62 ⟨rfl, hb⟩; refine ⟨_, rfl, ?_⟩; have n0_ := Aside0.mk (blk_below (g := gb332) (o := .cells #[.int .i64 a0_0, .slice A0_1 l0_1.length c0_1, .int .i64 a0_2, .int .i64 a0_3, .slice A0_4 l0_4.length c0_4, .slice A0_5 l0_5.length c0_5] 26 (0, 0)) (by (with_reducible repeat (first | refine blk_drewN ?_ _ | refine blk_drew ?_ | refine blk_alloc ?_ _)); exact BK332.out) hb); have n1_ := Aside0.mk (blk_below (g := gb333) (o := .cells #[.int .i64 a2_0, .int .i64 a2_1, .int .i64 a2_2] 44 (0, 0)) (by (with_reducible repeat (first | refine blk_drewN ?_ _ | refine blk_drew ?_ | refine blk_alloc ?_ _)); exact BK333.out) hb); have n2_ := Aside0.mk (blk_below (g := gb334) (o := .cells #[.int .i64 a3_0, .int .i64 a3_1, .int .i64 a3_2] 44 (0, 0)) (by (with_reducible repeat (first | refine blk_drewN ?_ _ | refine blk_drew ?_ | refine blk_alloc ?_ _)); exact BK334.out) hb); have n3_ := Aside0.mk (below_step (by repeat (first | (with_reducible first | exact HB.out | apply below_alloc | apply pw_below_drewN | apply below_drew1 | refine below_set ?_ GE332.out | refine below_set ?_ GE333.out | refine below_set ?_ GE334.out) | exact HB.out)) hb); clear BK332; clear BK333; clear BK334; clear HB; have BK332 := n0_; have BK333 := n1_; have BK334 := n2_; have HB := n3_; clear n0_ n1_ n2_ n3_; (try clear hb); (try clear hb2); (try clear hk); (try clear hi); have hcz63_0 := bc0 BK332; have hcz63_1 := bc1 BK332; have hcz63_2 := bc2 BK332; have hcz63_3 := bc3 BK332; have hcz63_4 := bc4 BK332; have hcz63_5 := bc5 BK332; have hfz63_0 := blk_frozen BK332.out 0; have hfz63_1 := blk_frozen BK332.out 1; have hfz63_2 := blk_frozen BK332.out 2; have hfz63_3 := blk_frozen BK332.out 3; have hfz63_4 := blk_frozen BK332.out 4; have hfz63_5 := blk_frozen BK332.out 5) | ((with_reducible refine gate_callee (f := 21) rfl ?_); refine goesL_ (some 32) rfl rfl Try.func21 (by kernel_rfl) rfl #[.agg #[.int .i64 a0_0, .slice A0_1 l0_1.length c0_1, .int .i64 a0_2, .int .i64 a0_3, .slice A0_4 l0_4.length c0_4, .slice A0_5 l0_5.length c0_5], .slice A1 l1.length c1] rfl (by (try simp only [List.map_toArray, List.map_cons, List.map_nil]); first | done | rfl | (simp only [List.length_drop, List.length_take]; rfl)) ?_; (with_reducible refine (hopmeshref34_First.calls kj6 a0_0 _ _ l0_1 a0_2 a0_3 _ _ l0_4 _ _ l0_5 _ _ l1 t339 t340 _ ?side1 ?side2 ?side3 ?side4 ?side5 ?side6 ?side7 ?side8 A24.out).mono ?_); (case side1 | side3 | side5 | side7 => repeat (first | exact (Kd.C_below HR0_1.out HB.out) | exact (Kd.C_below HR0_4.out HB.out) | exact (Kd.C_below HR0_5.out HB.out) | exact (Kd.C_below HR1.out HB.out) | (with_reducible refine Kd.C_alloc ?_ _) | (with_reducible refine Kd.C_drewN ?_ _) | (with_reducible refine Kd.C_drew ?_))); (case side2 | side4 | side6 | side8 => first | exact HC0_1.out | exact HC0_4.out | exact HC0_5.out | exact HC1.out); rintro e w64 ⟨rfl, hb⟩; refine ⟨_, rfl, ?_⟩; have n0_ := Aside0.mk (blk_below (g := gb332) (o := .cells #[.int .i64 a0_0, .slice A0_1 l0_1.length c0_1, .int .i64 a0_2, .int .i64 a0_3, .slice A0_4 l0_4.length c0_4, .slice A0_5 l0_5.length c0_5] 26 (0, 0)) (by (with_reducible repeat (first | refine blk_drewN ?_ _ | refine blk_drew ?_ | refine blk_alloc ?_ _)); exact BK332.out) hb); have n1_ := Aside0.mk (blk_below (g := gb333) (o := .cells #[.int .i64 a2_0, .int .i64 a2_1, .int .i64 a2_2] 44 (0, 0)) (by (with_reducible repeat (first | refine blk_drewN ?_ _ | refine blk_drew ?_ | refine blk_alloc ?_ _)); exact BK333.out) hb); have n2_ := Aside0.mk (blk_below (g := gb334) (o := .cells #[.int .i64 a3_0, .int .i64 a3_1, .int .i64 a3_2] 44 (0, 0)) (by (with_reducible repeat (first | refine blk_drewN ?_ _ | refine blk_drew ?_ | refine blk_alloc ?_ _)); exact BK334.out) hb); have n3_ := Aside0.mk (below_step (by repeat (first | (with_reducible first | exact HB.out | apply below_alloc | apply pw_below_drewN | apply below_drew1 | refine below_set ?_ GE332.out | refine below_set ?_ GE333.out | refine below_set ?_ GE334.out) | exact HB.out)) hb); clear BK332; clear BK333; clear BK334; clear HB; have BK332 := n0_; have BK333 := n1_; have BK334 := n2_; have HB := n3_; clear n0_ n1_ n2_ n3_; (try clear hb); (try clear hb2); (try clear hk); (try clear hi)))
      have n0_ := Aside0.mk (blk_drew BK332.out)
      have n1_ := Aside0.mk (blk_drew BK333.out)
      have n2_ := Aside0.mk (blk_drew BK334.out)
      have n3_ := Aside0.mk (below_drew1 HB.out)
      clear BK332
      clear BK333
      clear BK334
      clear HB
      have BK332 := n0_
      have BK333 := n1_
      have BK334 := n2_
      have HB := n3_
      clear n0_ n1_ n2_ n3_
      refine start_ (n := 29) (S := fun w' => True) (ds := []) #[false, false, false, false, false, false, false, false, false, false, false, false, false, false, false, false, false, false, false, false, false, false, false, false, false, false, false, false, false] (by kernel_rfl) rfl rfl trivial (fun hHeld => ?_); refine with_tabW hopmeshlaw34_ConflictFaults.tab7 hopmeshlaw34_ConflictFaults.bits7 (fun HT_ HW_ => ?_)
      generalize w64.drew = w65 at BK332 BK333 BK334 HB hHeld ⊢
      refine pu_ HT_ 0 35 (bl 29 1) ?_
      refine pu_ HT_ 1 36 (bl 29 3) ?_
      refine pu_ HT_ 2 37 (bl 29 7) ?_
      refine pu_ HT_ 3 38 (bl 29 15) ?_
      refine of_ HT_ 4 39 (bl 29 31) ?_
      refine of_ HT_ 5 40 (bl 29 63) ?_
      refine of_ HT_ 6 41 (bl 29 127) ?_
      refine pu_ HT_ 7 42 (bl 29 255) ?_
      refine pu_ HT_ 8 43 (bl 29 511) ?_
      refine of_ HT_ 9 44 (bl 29 1023) ?_
      refine of_ HT_ 10 45 (bl 29 2047) ?_
      refine of_ HT_ 11 46 (bl 29 4095) ?_
      refine of_ HT_ 12 47 (bl 29 8191) ?_
      refine of_ HT_ 13 48 (bl 29 16383) ?_
      refine of_ HT_ 14 49 (bl 29 32767) ?_
      refine of_ HT_ 15 50 (bl 29 65535) ?_
      refine pu_ HT_ 16 51 (bl 29 131071) ?_
      refine pu_ HT_ 17 52 (bl 29 262143) ?_
      refine of_ HT_ 18 53 (bl 29 524287) ?_
      refine of_ HT_ 19 54 (bl 29 1048575) ?_
      refine of_ HT_ 20 55 (bl 29 2097151) ?_
      refine of_ HT_ 21 56 (bl 29 4194303) ?_
      refine of_ HT_ 22 57 (bl 29 8388607) ?_
      refine of_ HT_ 23 58 (bl 29 16777215) ?_
      refine of_ HT_ 24 59 (bl 29 33554431) ?_
      refine of_ HT_ 25 60 (bl 29 67108863) ?_
      refine of_ HT_ 26 61 (bl 29 134217727) ?_
      refine pu_ HT_ 27 62 (bl 29 268435455) ?_
      refine pu_ HT_ 28 8 (bl 29 536870911) ?_
      refine done_ (done_of HT_.out (by kernel_rfl)) ?_
      try go_wp2
      go_ret
      exact ⟨by first | rfl | (simp [errW_none, errW_some] <;> rfl) | (simp [*, errW_none, errW_some] <;> rfl), by repeat (first | (with_reducible first | exact HB.out | apply below_alloc | apply pw_below_drewN | apply below_drew1 | refine below_set ?_ GE332.out | refine below_set ?_ GE333.out | refine below_set ?_ GE334.out) | exact HB.out)⟩
 ·
  replace c6 := Bool.eq_false_iff.mpr c6
  subst c6
  have H1 : (some false) = some r := by rw [if_neg (show ¬ (false = true) by decide)] at H; exact H
  clear H
  have H := H1
  clear H1
  obtain rfl := Option.some.inj H
  go_enter Try.func6, Try.ntmps6
  go_wp2_with (first | ((with_reducible refine gate_dst (N := 4) rfl ?_); refine box_event ?hg (N := 4) ?hd (cs := #[.int .i64 a0_0, .slice A0_1 l0_1.length c0_1, .int .i64 a0_2, .int .i64 a0_3, .slice A0_4 l0_4.length c0_4, .slice A0_5 l0_5.length c0_5]) (t := 26) ?hr ?_; (case hd => rfl); (case hg => rfl); (case hr => first | (go_simp; done) | (go_simp; rfl)); intro gb332 hg w66 hbox hb; have n0_ := Aside0.mk (below_step (by repeat (first | (with_reducible first | exact HB.out | apply below_alloc | apply pw_below_drewN | apply below_drew1) | exact HB.out)) hb); have n1_ := Aside0.mk (hbox); have n2_ := Aside0.mk ((by rw [hg]; exact (below_size (by repeat (first | (with_reducible first | exact HB.out | apply below_alloc | apply pw_below_drewN | apply below_drew1) | exact HB.out))) : w.heap.size ≤ gb332)); have n3_ := Aside0.mk ((by rw [hg]; exact (below_size (by repeat (first | (with_reducible first | exact HB.out | apply below_alloc | apply pw_below_drewN | apply below_drew1) | exact HB.out))) : w.heap.size ≤ gb332)); clear HB; have HB := n0_; have BK332 := n1_; have GW332 := n2_; have GE332 := n3_; clear n0_ n1_ n2_ n3_; clear hb hbox hg) | ((with_reducible refine gate_dst (N := 6) rfl ?_); refine box_event ?hg (N := 6) ?hd (cs := #[.int .i64 a2_0, .int .i64 a2_1, .int .i64 a2_2]) (t := 44) ?hr ?_; (case hd => rfl); (case hg => rfl); (case hr => first | (go_simp; done) | (go_simp; rfl)); intro gb333 hg w67 hbox hb; have n0_ := Aside0.mk (blk_below (g := gb332) (o := .cells #[.int .i64 a0_0, .slice A0_1 l0_1.length c0_1, .int .i64 a0_2, .int .i64 a0_3, .slice A0_4 l0_4.length c0_4, .slice A0_5 l0_5.length c0_5] 26 (0, 0)) (by (with_reducible repeat (first | refine blk_drewN ?_ _ | refine blk_drew ?_ | refine blk_alloc ?_ _)); exact BK332.out) hb); have n1_ := Aside0.mk (below_step (by repeat (first | (with_reducible first | exact HB.out | apply below_alloc | apply pw_below_drewN | apply below_drew1 | refine below_set ?_ GE332.out) | exact HB.out)) hb); have n2_ := Aside0.mk (hbox); have n3_ := Aside0.mk ((by rw [hg]; exact (below_size (by repeat (first | (with_reducible first | exact HB.out | apply below_alloc | apply pw_below_drewN | apply below_drew1 | refine below_set ?_ GE332.out) | exact HB.out))) : w.heap.size ≤ gb333)); have n4_ := Aside0.mk ((by rw [hg]; exact (below_size (by repeat (first | (with_reducible first | exact HB.out | apply below_alloc | apply pw_below_drewN | apply below_drew1 | refine below_set ?_ GE332.out) | exact HB.out))) : w.heap.size ≤ gb333)); have n5_ := Aside0.mk ((by rw [hg]; exact Nat.ne_of_lt (blk_lt (g := gb332) (o := .cells #[.int .i64 a0_0, .slice A0_1 l0_1.length c0_1, .int .i64 a0_2, .int .i64 a0_3, .slice A0_4 l0_4.length c0_4, .slice A0_5 l0_5.length c0_5] 26 (0, 0)) (by (with_reducible repeat (first | refine blk_drewN ?_ _ | refine blk_drew ?_ | refine blk_alloc ?_ _)); exact BK332.out)) : gb332 ≠ gb333)); have n6_ := Aside0.mk ((by rw [hg]; exact Nat.ne_of_gt (blk_lt (g := gb332) (o := .cells #[.int .i64 a0_0, .slice A0_1 l0_1.length c0_1, .int .i64 a0_2, .int .i64 a0_3, .slice A0_4 l0_4.length c0_4, .slice A0_5 l0_5.length c0_5] 26 (0, 0)) (by (with_reducible repeat (first | refine blk_drewN ?_ _ | refine blk_drew ?_ | refine blk_alloc ?_ _)); exact BK332.out)) : gb333 ≠ gb332)); clear BK332; clear HB; have BK332 := n0_; have HB := n1_; have BK333 := n2_; have GW333 := n3_; have GE333 := n4_; have NB332_333 := n5_; have NB333_332 := n6_; clear n0_ n1_ n2_ n3_ n4_ n5_ n6_; clear hb hbox hg) | ((with_reducible refine gate_dst (N := 7) rfl ?_); refine box_event ?hg (N := 7) ?hd (cs := #[.int .i64 a3_0, .int .i64 a3_1, .int .i64 a3_2]) (t := 44) ?hr ?_; (case hd => rfl); (case hg => rfl); (case hr => first | (go_simp; done) | (go_simp; rfl)); intro gb334 hg w68 hbox hb; have n0_ := Aside0.mk (blk_below (g := gb332) (o := .cells #[.int .i64 a0_0, .slice A0_1 l0_1.length c0_1, .int .i64 a0_2, .int .i64 a0_3, .slice A0_4 l0_4.length c0_4, .slice A0_5 l0_5.length c0_5] 26 (0, 0)) (by (with_reducible repeat (first | refine blk_drewN ?_ _ | refine blk_drew ?_ | refine blk_alloc ?_ _)); exact BK332.out) hb); have n1_ := Aside0.mk (blk_below (g := gb333) (o := .cells #[.int .i64 a2_0, .int .i64 a2_1, .int .i64 a2_2] 44 (0, 0)) (by (with_reducible repeat (first | refine blk_drewN ?_ _ | refine blk_drew ?_ | refine blk_alloc ?_ _)); exact BK333.out) hb); have n2_ := Aside0.mk (below_step (by repeat (first | (with_reducible first | exact HB.out | apply below_alloc | apply pw_below_drewN | apply below_drew1 | refine below_set ?_ GE332.out | refine below_set ?_ GE333.out) | exact HB.out)) hb); have n3_ := Aside0.mk (hbox); have n4_ := Aside0.mk ((by rw [hg]; exact (below_size (by repeat (first | (with_reducible first | exact HB.out | apply below_alloc | apply pw_below_drewN | apply below_drew1 | refine below_set ?_ GE332.out | refine below_set ?_ GE333.out) | exact HB.out))) : w.heap.size ≤ gb334)); have n5_ := Aside0.mk ((by rw [hg]; exact (below_size (by repeat (first | (with_reducible first | exact HB.out | apply below_alloc | apply pw_below_drewN | apply below_drew1 | refine below_set ?_ GE332.out | refine below_set ?_ GE333.out) | exact HB.out))) : w.heap.size ≤ gb334)); have n6_ := Aside0.mk ((by rw [hg]; exact Nat.ne_of_lt (blk_lt (g := gb332) (o := .cells #[.int .i64 a0_0, .slice A0_1 l0_1.length c0_1, .int .i64 a0_2, .int .i64 a0_3, .slice A0_4 l0_4.length c0_4, .slice A0_5 l0_5.length c0_5] 26 (0, 0)) (by (with_reducible repeat (first | refine blk_drewN ?_ _ | refine blk_drew ?_ | refine blk_alloc ?_ _)); exact BK332.out)) : gb332 ≠ gb334)); have n7_ := Aside0.mk ((by rw [hg]; exact Nat.ne_of_gt (blk_lt (g := gb332) (o := .cells #[.int .i64 a0_0, .slice A0_1 l0_1.length c0_1, .int .i64 a0_2, .int .i64 a0_3, .slice A0_4 l0_4.length c0_4, .slice A0_5 l0_5.length c0_5] 26 (0, 0)) (by (with_reducible repeat (first | refine blk_drewN ?_ _ | refine blk_drew ?_ | refine blk_alloc ?_ _)); exact BK332.out)) : gb334 ≠ gb332)); have n8_ := Aside0.mk ((by rw [hg]; exact Nat.ne_of_lt (blk_lt (g := gb333) (o := .cells #[.int .i64 a2_0, .int .i64 a2_1, .int .i64 a2_2] 44 (0, 0)) (by (with_reducible repeat (first | refine blk_drewN ?_ _ | refine blk_drew ?_ | refine blk_alloc ?_ _)); exact BK333.out)) : gb333 ≠ gb334)); have n9_ := Aside0.mk ((by rw [hg]; exact Nat.ne_of_gt (blk_lt (g := gb333) (o := .cells #[.int .i64 a2_0, .int .i64 a2_1, .int .i64 a2_2] 44 (0, 0)) (by (with_reducible repeat (first | refine blk_drewN ?_ _ | refine blk_drew ?_ | refine blk_alloc ?_ _)); exact BK333.out)) : gb334 ≠ gb333)); clear BK332; clear BK333; clear HB; have BK332 := n0_; have BK333 := n1_; have HB := n2_; have BK334 := n3_; have GW334 := n4_; have GE334 := n5_; have NB332_334 := n6_; have NB334_332 := n7_; have NB333_334 := n8_; have NB334_333 := n9_; clear n0_ n1_ n2_ n3_ n4_ n5_ n6_ n7_ n8_ n9_; clear hb hbox hg) | ((with_reducible refine gate_callee (f := 11) rfl ?_); refine goesL_ (some 13) rfl rfl Try.func11 (by kernel_rfl) rfl #[] rfl (by (try simp only [List.map_toArray, List.map_cons, List.map_nil]); first | done | rfl | (simp only [List.length_drop, List.length_take]; rfl)) ?_; (with_reducible refine (hopmeshlaw34_awake.calls  false _ A5.out).mono ?_); rintro e w69 ⟨rfl, hb⟩; refine ⟨_, rfl, ?_⟩; have n0_ := Aside0.mk (blk_below (g := gb332) (o := .cells #[.int .i64 a0_0, .slice A0_1 l0_1.length c0_1, .int .i64 a0_2, .int .i64 a0_3, .slice A0_4 l0_4.length c0_4, .slice A0_5 l0_5.length c0_5] 26 (0, 0)) (by (with_reducible repeat (first | refine blk_drewN ?_ _ | refine blk_drew ?_ | refine blk_alloc ?_ _)); exact BK332.out) hb); have n1_ := Aside0.mk (blk_below (g := gb333) (o := .cells #[.int .i64 a2_0, .int .i64 a2_1, .int .i64 a2_2] 44 (0, 0)) (by (with_reducible repeat (first | refine blk_drewN ?_ _ | refine blk_drew ?_ | refine blk_alloc ?_ _)); exact BK333.out) hb); have n2_ := Aside0.mk (blk_below (g := gb334) (o := .cells #[.int .i64 a3_0, .int .i64 a3_1, .int .i64 a3_2] 44 (0, 0)) (by (with_reducible repeat (first | refine blk_drewN ?_ _ | refine blk_drew ?_ | refine blk_alloc ?_ _)); exact BK334.out) hb); have n3_ := Aside0.mk (below_step (by repeat (first | (with_reducible first | exact HB.out | apply below_alloc | apply pw_below_drewN | apply below_drew1 | refine below_set ?_ GE332.out | refine below_set ?_ GE333.out | refine below_set ?_ GE334.out) | exact HB.out)) hb); clear BK332; clear BK333; clear BK334; clear HB; have BK332 := n0_; have BK333 := n1_; have BK334 := n2_; have HB := n3_; clear n0_ n1_ n2_ n3_; (try clear hb); (try clear hb2); (try clear hk); (try clear hi)))
  go_ret
  exact ⟨by first | rfl | (simp [errW_none, errW_some] <;> rfl) | (simp [*, errW_none, errW_some] <;> rfl), by repeat (first | (with_reducible first | exact HB.out | apply below_alloc | apply pw_below_drewN | apply below_drew1 | refine below_set ?_ GE332.out | refine below_set ?_ GE333.out | refine below_set ?_ GE334.out) | exact HB.out)⟩

end Go.Proofs.Ytibgcekekmphoaa.P34
