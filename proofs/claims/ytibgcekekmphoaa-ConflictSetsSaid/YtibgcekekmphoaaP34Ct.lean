-- Written by a program of this session (wip/tools) over the kit's print; Lean checks it.
import Derived.Test.YtibgcekekmphoaaP340
import Derived.Test.YtibgcekekmphoaaP34G
namespace Go.Proofs.Ytibgcekekmphoaa.P34
open Go.RowKit Go.Proofs.YtibgcekekmphoaaW.PrintWords Go.Proofs.YtibgcekekmphoaaW.PrintLast Go.Proofs.YtibgcekekmphoaaW.PrintMore
attribute [local go_sem] max2_int min2_int max_two min_two max_three min_three max_four min_four   -- for this text's walks alone
set_option linter.unusedVariables false
set_option linter.unusedSimpArgs false

/-! ### hopmeshref34_Cells: function 50 -/
def hopmeshref34_Cells.l0 : Nat → List (S44) → List (S36) → Int → Option ((List (S36)))
 | 0, _, _, _ => none
 | k + 1, x0, x3, x4 => if x4 < (x0.length : Int) then (if 0 ≤ x4 then (if x3.length < 3518437208883 then (hopmeshref34_Cells.l0 k x0 (x3 ++ [(⟨0, 0, (rd_T44 x0 x4).f0, (rd_T44 x0 x4).f1, 0⟩ : S36)]) (wrap64 (x4 + 1))) else (none)) else (none)) else (some x3)
def hopmeshref34_Cells.f (k : Nat) (l0 : List (S44)) : Option ((List (S36))) := hopmeshref34_Cells.l0 k l0 (([] : List (S36))) 0
theorem hopmeshref34_Cells.mono_l : ∀ k, (∀ y0 y1 y2, LeO (hopmeshref34_Cells.l0 k y0 y1 y2) (hopmeshref34_Cells.l0 (k + 1) y0 y1 y2))
 | 0 => fun _ _ _ r h => by simp [hopmeshref34_Cells.l0] at h
 | k + 1 => by
  have ih0 := hopmeshref34_Cells.mono_l k
  ·
   intro y0 y1 y2
   unfold hopmeshref34_Cells.l0
   repeat' first
   | (with_reducible exact ih0 _ _ _)
   | (with_reducible exact LeO.refl _)
   | (with_reducible exact LeO.none _)
   | (with_reducible refine LeO.ite ?_ ?_)
   | (with_reducible refine LeO.bind ?_ (fun _ => ?_))
   | exact ih0 _ _ _
   | exact LeO.none _
   | refine LeO.ite ?_ ?_
   | refine LeO.bind ?_ (fun _ => ?_)
theorem hopmeshref34_Cells.mono : ∀ a0 k, LeO (hopmeshref34_Cells.f k a0) (hopmeshref34_Cells.f (k + 1) a0) := by
 intro a0 k
 have ih0 := hopmeshref34_Cells.mono_l k
 unfold hopmeshref34_Cells.f
 repeat' first
   | (with_reducible exact ih0 _ _ _)
   | (with_reducible exact LeO.refl _)
   | (with_reducible exact LeO.none _)
   | (with_reducible refine LeO.ite ?_ ?_)
   | (with_reducible refine LeO.bind ?_ (fun _ => ?_))
   | exact ih0 _ _ _
   | exact LeO.none _
   | refine LeO.ite ?_ ?_
   | refine LeO.bind ?_ (fun _ => ?_)
def hopmeshref34_Cells.T5 : Bool × List (List Nat × List Nat) := (true, [([], []), ([], []), ([], []), ([1, 2], [1, 2]), ([3], [3]), ([4], [4]), ([], []), ([], []), ([6, 7], [6, 7]), ([8], [8]), ([9], [9]), ([5, 10], [5, 10]), ([11], [11]), ([0, 12], [0, 12]), ([13, 13, 0, 1, 2, 3, 4, 5, 6, 7, 8, 9, 10, 11, 12, 13], [0, 13])])
def hopmeshref34_Cells.B5 : List Nat := [0, 0, 0, 6, 14, 30, 0, 0, 192, 448, 960, 2046, 4094, 8191, 16383]
theorem hopmeshref34_Cells.tab5 : rtab .any (opsOf Try.f50 5) = hopmeshref34_Cells.T5 := by kernel_rfl
theorem hopmeshref34_Cells.bits5 : waitsOk hopmeshref34_Cells.T5.2 hopmeshref34_Cells.B5 = true := by kernel_rfl
set_option maxHeartbeats 8000000 in
set_option maxRecDepth 100000 in
theorem hopmeshref34_Cells.calls (k : Nat) (A0 : Option Addr) (c0 : Nat) (l0 : List (S44)) (r : List (S36)) (w : World) (hr0 : Kd.C k44 w A0 l0.length l0) (hc0 : l0.length ≤ c0) (h : hopmeshref34_Cells.f k l0 = some r) :
  Calls Try.prog 50 #[.slice A0 l0.length c0] w fun e w' => ∃ v0_ : Value, e = .returned (v0_) ∧ Kd.R k36 36 w' w.heap.size (fun _ => True) v0_ r ∧ Below w.heap.size w w' := by
 have hu36 := Try.underlying36
 have HR0 := Aside0.mk hr0
 have HC0 := Aside0.mk hc0
 clear hr0 hc0
 have HB := Aside0.mk (Below.refl w.heap.size w)
 have H : (hopmeshref34_Cells.l0 k l0 (([] : List (S36))) 0) = some r := h
 clear h
 obtain ⟨y314, hy314⟩ : ∃ y_ : List (S36), y_ = (([] : List (S36))) := ⟨_, rfl⟩
 replace H : (hopmeshref34_Cells.l0 k l0 y314 0) = some r := by first | (rw [hy314]; with_reducible exact H) | (have H2_ := (Option.bind_some _ _).symm.trans H; rw [hy314]; with_reducible exact H2_) | (have H2_ := (Option.bind_some _ _).symm.trans H; with_reducible exact H2_) | with_reducible exact H | (rw [hy314]; exact H) | exact H
 have Ny314 := Aside0.mk hy314
 clear hy314
 have H' := Aside0.mk H
 clear H
 go_enter Try.func50, Try.ntmps50
 go_wp2_with (first | ((with_reducible refine gate_dst (N := 5) rfl ?_); refine Kd.R_lit k36 _ 36 ?hg (N := 5) ?hd (xs := ([] : List (S36))) (inner := []) (ok := fun _ => True) (okp := fun _ => True) ?hr ?hp (fun _ hk => hk) trivial (Below.refl _ _) (Nat.le_refl _) (by simp) ?_; (case hd => rfl); (case hg => rfl); (case hr => first | (go_simp; done) | (go_simp; rfl)); (case hp => exact (Reps.none _ _)); intro v315 w2 ho3 hb hg_ hnew_; clear hg_ hnew_; (first | rw [← Ny314.out] at ho3 | (simp only [Int.reduceToNat] at ho3; rw [← Ny314.out] at ho3)); have n0_ := Aside0.mk (Kd.R_lower ho3 (below_size hb_)); have n1_ := Aside0.mk (below_step hb_ hb); clear HB; have HO316 := n0_; have HB := n1_; clear n0_ n1_; clear hb ho3))
 go_loopg [3, 4] k (fun kq v3 v4 w' => ∃ (x3_1 : List (S36)) (x4_1 : Int), v4 = .int .i64 x4_1 ∧ Aside0 (hopmeshref34_Cells.l0 kq l0 x3_1 x4_1 = some r) ∧ Aside0 (kq ≤ k) ∧ Aside0 (Kd.R k36 36 w' w.heap.size (fun _ => True) v3 x3_1) ∧ Aside0 (Below w.heap.size w w'))
 case atStart => exact ⟨(y314), (0), rl_, H', ⟨Nat.le_refl _⟩, ⟨kr_ HO316⟩, ⟨hb_⟩⟩
 case round =>
  clear H'
  try clear p2
  (repeat clear HO_3); (repeat clear HB)
  obtain ⟨x3_1, x4_1, rfl, HA, HK1, HO_3, HB⟩ := hrel
  cases gk with
  | zero => exact absurd HA.out (by simp [hopmeshref34_Cells.l0])
  | succ k1 =>
   have H := HA.out
   clear HA
   simp only [hopmeshref34_Cells.l0] at H
   by_cases c4 : x4_1 < (l0.length : Int)
   ·
    rw [if_pos c4] at H
    have c4b0 : decide (x4_1 < (l0.length : Int)) = true := decide_eq_true c4
    clear c4
    by_cases c5 : 0 ≤ x4_1
    ·
     rw [if_pos c5] at H
     have c5b0 : decide (0 ≤ x4_1) = true := decide_eq_true c5
     clear c5
     by_cases c6 : x3_1.length < 3518437208883
     ·
      rw [if_pos c6] at H
      have LMc6 := Aside0.mk c6
      clear c6
      obtain ⟨y319, hy319⟩ : ∃ y_ : List (S36), y_ = (x3_1 ++ [(⟨0, 0, (rd_T44 l0 x4_1).f0, (rd_T44 l0 x4_1).f1, 0⟩ : S36)]) := ⟨_, rfl⟩
      replace H : (hopmeshref34_Cells.l0 k1 l0 y319 (wrap64 (x4_1 + 1))) = some r := by first | (rw [hy319]; with_reducible exact H) | (have H2_ := (Option.bind_some _ _).symm.trans H; rw [hy319]; with_reducible exact H2_) | (have H2_ := (Option.bind_some _ _).symm.trans H; with_reducible exact H2_) | with_reducible exact H | (rw [hy319]; exact H) | exact H
      have Ny319 := Aside0.mk hy319
      clear hy319
      have H' := Aside0.mk H
      clear H
      try go_wp2
      have n0_ := Aside0.mk (Kd.R_drew HO_3.out)
      have n1_ := Aside0.mk (below_drew1 HB.out)
      clear HO_3
      clear HB
      have HO_3 := n0_
      have HB := n1_
      clear n0_ n1_
      have p317 : 0 ≤ (x4_1 : Int) := of_decide_eq_true (by assumption)
      have q317 : x4_1 < (l0.length : Int) := of_decide_eq_true (by assumption)
      obtain ⟨ad317, e317, hx317_0, hx317_1, hx317_2⟩ := at_T44 HR0.out x4_1 p317 q317
      have hw317_2 := hx317_2
      have hw317_1 := hx317_1
      have hw317_0 := hx317_0
      cases e317
      replace hx317_0 := (HB.out.cell (World.block_lt_of_cell? w _ hx317_0)).trans hx317_0
      replace hx317_1 := (HB.out.cell (World.block_lt_of_cell? w _ hx317_1)).trans hx317_1
      replace hx317_2 := (HB.out.cell (World.block_lt_of_cell? w _ hx317_2)).trans hx317_2
      replace p317 := eq_true p317
      replace q317 := eq_true q317
      have p318 : 0 ≤ (x4_1 : Int) := of_decide_eq_true (by assumption)
      have q318 : x4_1 < (l0.length : Int) := of_decide_eq_true (by assumption)
      obtain ⟨ad318, e318, hx318_0, hx318_1, hx318_2⟩ := at_T44 HR0.out x4_1 p318 q318
      have hw318_2 := hx318_2
      have hw318_1 := hx318_1
      have hw318_0 := hx318_0
      obtain rfl : ad317 = ad318 := (by injection e318)
      replace hx318_0 := (HB.out.cell (World.block_lt_of_cell? w _ hx318_0)).trans hx318_0
      replace hx318_1 := (HB.out.cell (World.block_lt_of_cell? w _ hx318_1)).trans hx318_1
      replace hx318_2 := (HB.out.cell (World.block_lt_of_cell? w _ hx318_2)).trans hx318_2
      replace p318 := eq_true p318
      replace q318 := eq_true q318
      refine start_ (n := 15) (S := fun w' => w'.cell? (ad317.add ((x4_1).toNat * 3)) = some (.int .i64 ((rd_T44 l0 x4_1).f0)) ∧ w'.cell? ⟨(ad317.add ((x4_1).toNat * 3)).block, (ad317.add ((x4_1).toNat * 3)).off + 1, none⟩ = some (.int .i64 ((rd_T44 l0 x4_1).f1)) ∧ w'.cell? ⟨(ad317.add ((x4_1).toNat * 3)).block, (ad317.add ((x4_1).toNat * 3)).off + 2, none⟩ = some (.int .i64 ((rd_T44 l0 x4_1).f2)) ∧ w'.cell? (ad317.add ((x4_1).toNat * 3)) = some (.int .i64 ((rd_T44 l0 x4_1).f0)) ∧ w'.cell? ⟨(ad317.add ((x4_1).toNat * 3)).block, (ad317.add ((x4_1).toNat * 3)).off + 1, none⟩ = some (.int .i64 ((rd_T44 l0 x4_1).f1)) ∧ w'.cell? ⟨(ad317.add ((x4_1).toNat * 3)).block, (ad317.add ((x4_1).toNat * 3)).off + 2, none⟩ = some (.int .i64 ((rd_T44 l0 x4_1).f2))) (ds := []) #[false, false, false, false, false, false, false, false, false, false, false, false, false, false, false] (by kernel_rfl) rfl rfl ⟨((HB.out.cell (World.block_lt_of_cell? w _ hw317_0)).trans hw317_0), ((HB.out.cell (World.block_lt_of_cell? w _ hw317_1)).trans hw317_1), ((HB.out.cell (World.block_lt_of_cell? w _ hw317_2)).trans hw317_2), ((HB.out.cell (World.block_lt_of_cell? w _ hw318_0)).trans hw318_0), ((HB.out.cell (World.block_lt_of_cell? w _ hw318_1)).trans hw318_1), ((HB.out.cell (World.block_lt_of_cell? w _ hw318_2)).trans hw318_2)⟩ (fun hHeld => ?_); refine with_tabW hopmeshref34_Cells.tab5 hopmeshref34_Cells.bits5 (fun HT_ HW_ => ?_)
      generalize wr.drew = w7 at HO_3 HB hx317_0 hx317_1 hx317_2 hx318_0 hx318_1 hx318_2 hHeld ⊢
      refine pu_ HT_ 0 12 (bl 15 1) ?_
      refine pu_ HT_ 1 13 (bl 15 3) ?_
      refine pu_ HT_ 2 14 (bl 15 7) ?_
      refine pu_ HT_ 3 15 (bl 15 15) ?_
      refine pu_ HT_ 4 16 (bl 15 31) ?_
      refine pu_ HT_ 6 18 (bl 15 95) ?_
      refine pu_ HT_ 7 19 (bl 15 223) ?_
      refine pu_ HT_ 8 20 (bl 15 479) ?_
      refine pu_ HT_ 9 21 (bl 15 991) ?_
      refine tk_ HT_ HW_ hHeld 5 17 (bl 15 1023) ?_
      refine tk_ HT_ HW_ hHeld 10 22 (bl 15 2047) ?_
      refine pu_ HT_ 11 23 (bl 15 4095) ?_
      refine one_ (i := 12) (N := some 24) (bl 15 8191) rfl rfl (one_of HT_.out (by kernel_rfl)) (by decide) (fun K hK => ?_)
      refine value_ (w1 := ?_) (v := ?_) (by rfl) rfl ?_ ?_
      rotate_left 2
      ·
       go_simp
       constructor
       ·
        rfl
       ·
        rfl
      refine hK.out _ _ ⟨(World.cell?_alloc_lt _ _ _ (World.block_lt_of_cell? _ _ (((HB.out.cell (World.block_lt_of_cell? w _ hw317_0)).trans hw317_0)))).trans (((HB.out.cell (World.block_lt_of_cell? w _ hw317_0)).trans hw317_0)), (World.cell?_alloc_lt _ _ _ (World.block_lt_of_cell? _ _ (((HB.out.cell (World.block_lt_of_cell? w _ hw317_1)).trans hw317_1)))).trans (((HB.out.cell (World.block_lt_of_cell? w _ hw317_1)).trans hw317_1)), (World.cell?_alloc_lt _ _ _ (World.block_lt_of_cell? _ _ (((HB.out.cell (World.block_lt_of_cell? w _ hw317_2)).trans hw317_2)))).trans (((HB.out.cell (World.block_lt_of_cell? w _ hw317_2)).trans hw317_2)), (World.cell?_alloc_lt _ _ _ (World.block_lt_of_cell? _ _ (((HB.out.cell (World.block_lt_of_cell? w _ hw318_0)).trans hw318_0)))).trans (((HB.out.cell (World.block_lt_of_cell? w _ hw318_0)).trans hw318_0)), (World.cell?_alloc_lt _ _ _ (World.block_lt_of_cell? _ _ (((HB.out.cell (World.block_lt_of_cell? w _ hw318_1)).trans hw318_1)))).trans (((HB.out.cell (World.block_lt_of_cell? w _ hw318_1)).trans hw318_1)), (World.cell?_alloc_lt _ _ _ (World.block_lt_of_cell? _ _ (((HB.out.cell (World.block_lt_of_cell? w _ hw318_2)).trans hw318_2)))).trans (((HB.out.cell (World.block_lt_of_cell? w _ hw318_2)).trans hw318_2))⟩ (fun hHeld => ?_)
      clear hK K
      refine norm_ (a' := ?_) ?_ ?_
      rotate_left
      ·
       show Act.put _ (some 24) _ = _
       simp only [ap_, s0_, s1_, i64_w]
       rfl
      refine one_ (i := 13) (N := some 25) (bl 15 16383) rfl rfl (one_of HT_.out (by kernel_rfl)) (by decide) (fun K hK => ?_)
      refine Kd.R_append_step k36 (w0 := w) w.heap.size (by rfl) (.tmp 12) (.tmp 24) 27 36 (.agg #[(.int .i64 0), (.int .i64 0), (.int .i64 0), (.int .i64 0), (.int .i64 0)]) 40 rfl Try.underlying27 info36 rfl (by decide) (by omega) u3 x3_1 (⟨0, 0, (rd_T44 l0 x4_1).f0, (rd_T44 l0 x4_1).f1, 0⟩ : S36) [.int .i64 0, .int .i64 0, .int .i64 ((rd_T44 l0 x4_1).f0), .int .i64 ((rd_T44 l0 x4_1).f1), .int .i64 0] (fun _ => True) (fun _ => False) rfl rfl ?aP (fun _ hk => hk.elim) ?aF ?aO ?aB ?aS ?aL ?_
      (case aP => exact k36_mkM _ _ _ (⟨0, 0, (rd_T44 l0 x4_1).f0, (rd_T44 l0 x4_1).f1, 0⟩ : S36))
      (case aB => exact hb_)
      (case aF => exact (fun _ _ => trivial))
      (case aO => exact (kr_ HO_3))
      (case aS => exact (below_size hb_))
      (case aL => have := LMc6.out; omega)
      intro v320 w8 ho hb hg hat
      rw [← Ny319.out] at ho
      have n0_ := Aside0.mk (hb)
      have n1_ := Aside0.mk (ho)
      clear HB
      clear HO_3
      have HB := n0_
      have HO321 := n1_
      clear n0_ n1_
      clear ho hb hg hat
      refine hK.out _ _ ⟨((HB.out.cell (World.block_lt_of_cell? w _ hw317_0)).trans hw317_0), ((HB.out.cell (World.block_lt_of_cell? w _ hw317_1)).trans hw317_1), ((HB.out.cell (World.block_lt_of_cell? w _ hw317_2)).trans hw317_2), ((HB.out.cell (World.block_lt_of_cell? w _ hw318_0)).trans hw318_0), ((HB.out.cell (World.block_lt_of_cell? w _ hw318_1)).trans hw318_1), ((HB.out.cell (World.block_lt_of_cell? w _ hw318_2)).trans hw318_2)⟩ (fun hHeld => ?_)
      clear hK K
      refine norm_ (a' := ?_) ?_ ?_
      rotate_left
      ·
       show Act.put _ (some 25) _ = _
       simp only [ap_, s0_, s1_, i64_w]
       rfl
      refine pu_ HT_ 14 3 (bl 15 32767) ?_
      refine done_ (done_of HT_.out (by kernel_rfl)) ?_
      try go_wp2
      go_roundg k1
      case measure => have := HK1.out; omega
      case rel => exact ⟨(y319), (wrap64 (x4_1 + 1)), rl_, H', ⟨by have := HK1.out; omega⟩, ⟨kr_ HO321⟩, ⟨hb_⟩⟩
     ·
      rw [if_neg c6] at H
      exact absurd H (by simp)
    ·
     rw [if_neg c5] at H
     exact absurd H (by simp)
   ·
    rw [if_neg c4] at H
    have c4b0 : decide (x4_1 < (l0.length : Int)) = false := decide_eq_false c4
    clear c4
    obtain rfl := Option.some.inj H
    go_wp2
    go_ret
    exact ⟨_, by first | rfl | (simp [errW_none, errW_some] <;> rfl) | (simp [*, errW_none, errW_some] <;> rfl), kr_ HO_3, hb_⟩

/-! ### hopmeshref34_Together: function 24 -/
def hopmeshref34_Together.f (k : Nat) (a0_0 : Int) (l0_1 : List (List Int)) (a0_2 : Int) (a0_3 : Int) (l0_4 : List (S44)) (l0_5 : List Int) (a1_0 : Int) (a1_1 : Int) (a1_2 : Int) (a2_0 : Int) (a2_1 : Int) (a2_2 : Int) : Option (Bool) := (hopmeshref34_Cells.f k (([(⟨a1_0, a1_1, a1_2⟩ : S44), (⟨a2_0, a2_1, a2_2⟩ : S44)] : List (S44)))).bind fun t328 => ((hopmeshref34_Good.f k a0_0 l0_1 a0_2 a0_3 l0_4 l0_5 t328).bind fun t331 => (some t331))
theorem hopmeshref34_Together.mono : ∀ a0 a1 a2 a3 a4 a5 a6 a7 a8 a9 a10 a11 k, LeO (hopmeshref34_Together.f k a0 a1 a2 a3 a4 a5 a6 a7 a8 a9 a10 a11) (hopmeshref34_Together.f (k + 1) a0 a1 a2 a3 a4 a5 a6 a7 a8 a9 a10 a11) := by
 intro a0 a1 a2 a3 a4 a5 a6 a7 a8 a9 a10 a11 k
 unfold hopmeshref34_Together.f
 repeat' first
   | (with_reducible exact hopmeshref34_Cells.mono _ _)
   | (with_reducible exact hopmeshref34_Good.mono _ _ _ _ _ _ _ _)
   | (with_reducible exact LeO.refl _)
   | (with_reducible exact LeO.none _)
   | (with_reducible refine LeO.ite ?_ ?_)
   | (with_reducible refine LeO.bind ?_ (fun _ => ?_))
   | exact hopmeshref34_Cells.mono _ _
   | exact hopmeshref34_Good.mono _ _ _ _ _ _ _ _
   | exact LeO.none _
   | refine LeO.ite ?_ ?_
   | refine LeO.bind ?_ (fun _ => ?_)
set_option maxHeartbeats 8000000 in
set_option maxRecDepth 100000 in
theorem hopmeshref34_Together.calls (k : Nat) (a0_0 : Int) (A0_1 : Option Addr) (c0_1 : Nat) (l0_1 : List (List Int)) (a0_2 : Int) (a0_3 : Int) (A0_4 : Option Addr) (c0_4 : Nat) (l0_4 : List (S44)) (A0_5 : Option Addr) (c0_5 : Nat) (l0_5 : List Int) (a1_0 : Int) (a1_1 : Int) (a1_2 : Int) (a2_0 : Int) (a2_1 : Int) (a2_2 : Int) (r : Bool) (w : World) (hr0_1 : Kd.C (Kd.slice 3 (Kd.int .i64)) w A0_1 l0_1.length l0_1) (hc0_1 : l0_1.length ≤ c0_1) (hr0_4 : Kd.C k44 w A0_4 l0_4.length l0_4) (hc0_4 : l0_4.length ≤ c0_4) (hr0_5 : Kd.C (Kd.int .i64) w A0_5 l0_5.length l0_5) (hc0_5 : l0_5.length ≤ c0_5) (h : hopmeshref34_Together.f k a0_0 l0_1 a0_2 a0_3 l0_4 l0_5 a1_0 a1_1 a1_2 a2_0 a2_1 a2_2 = some r) :
  Calls Try.prog 24 #[.agg #[.int .i64 a0_0, .slice A0_1 l0_1.length c0_1, .int .i64 a0_2, .int .i64 a0_3, .slice A0_4 l0_4.length c0_4, .slice A0_5 l0_5.length c0_5], .agg #[.int .i64 a1_0, .int .i64 a1_1, .int .i64 a1_2], .agg #[.int .i64 a2_0, .int .i64 a2_1, .int .i64 a2_2]] w fun e w' => e = .returned (.bool r) ∧ Below w.heap.size w w' := by
 have hu26 := Try.underlying26
 have hu44 := Try.underlying44
 have HR0_1 := Aside0.mk hr0_1
 have HC0_1 := Aside0.mk hc0_1
 clear hr0_1 hc0_1
 have HR0_4 := Aside0.mk hr0_4
 have HC0_4 := Aside0.mk hc0_4
 clear hr0_4 hc0_4
 have HR0_5 := Aside0.mk hr0_5
 have HC0_5 := Aside0.mk hc0_5
 clear hr0_5 hc0_5
 have HB := Aside0.mk (Below.refl w.heap.size w)
 have H : ((hopmeshref34_Cells.f k (([(⟨a1_0, a1_1, a1_2⟩ : S44), (⟨a2_0, a2_1, a2_2⟩ : S44)] : List (S44)))).bind fun t328 => ((hopmeshref34_Good.f k a0_0 l0_1 a0_2 a0_3 l0_4 l0_5 t328).bind fun t331 => (some t331))) = some r := h
 clear h
 obtain ⟨y325, hy325⟩ : ∃ y_ : List (S44), y_ = (([(⟨a1_0, a1_1, a1_2⟩ : S44), (⟨a2_0, a2_1, a2_2⟩ : S44)] : List (S44))) := ⟨_, rfl⟩
 replace H : ((hopmeshref34_Cells.f k y325).bind fun t328 => ((hopmeshref34_Good.f k a0_0 l0_1 a0_2 a0_3 l0_4 l0_5 t328).bind fun t331 => (some t331))) = some r := by first | (rw [hy325]; with_reducible exact H) | (have H2_ := (Option.bind_some _ _).symm.trans H; rw [hy325]; with_reducible exact H2_) | (have H2_ := (Option.bind_some _ _).symm.trans H; with_reducible exact H2_) | with_reducible exact H | (rw [hy325]; exact H) | exact H
 have Ny325 := Aside0.mk hy325
 clear hy325
 replace H := Option.bind_eq_some_iff.mp H
 obtain ⟨t328, A40, H⟩ := H
 replace H : ((hopmeshref34_Good.f k a0_0 l0_1 a0_2 a0_3 l0_4 l0_5 t328).bind fun t331 => (some t331)) = some r := H
 have A4 := Aside0.mk A40
 clear A40
 replace H := Option.bind_eq_some_iff.mp H
 obtain ⟨t331, A50, H⟩ := H
 replace H : (some t331) = some r := H
 have A5 := Aside0.mk A50
 clear A50
 obtain rfl := Option.some.inj H
 go_enter Try.func24, Try.ntmps24
 try go_wp2_with (first | ((with_reducible refine gate_dst (N := 3) rfl ?_); refine bx_ 3 #[.int .i64 a0_0, .slice A0_1 l0_1.length c0_1, .int .i64 a0_2, .int .i64 a0_3, .slice A0_4 l0_4.length c0_4, .slice A0_5 l0_5.length c0_5] 26 ?_; intro gb322 hg w6 hbox hb; have n0_ := Aside0.mk (below_step hb_ hb); have n1_ := Aside0.mk (hbox); have n2_ := Aside0.mk ((by rw [hg]; exact (below_size hb_) : w.heap.size ≤ gb322)); have n3_ := Aside0.mk ((by rw [hg]; exact (below_size hb_) : w.heap.size ≤ gb322)); clear HB; have HB := n0_; have BK322 := n1_; have GW322 := n2_; have GE322 := n3_; clear n0_ n1_ n2_ n3_; clear hb hbox hg) | ((with_reducible refine gate_dst (N := 4) rfl ?_); refine bx_ 4 #[.int .i64 a1_0, .int .i64 a1_1, .int .i64 a1_2] 44 ?_; intro gb323 hg w7 hbox hb; have n0_ := bk_ BK322 hb; have n1_ := Aside0.mk (below_step hb_ hb); have n2_ := Aside0.mk (hbox); have n3_ := Aside0.mk ((by rw [hg]; exact (below_size hb_) : w.heap.size ≤ gb323)); have n4_ := Aside0.mk ((by rw [hg]; exact (below_size hb_) : w.heap.size ≤ gb323)); have n5_ := Aside0.mk ((by rw [hg]; exact Nat.ne_of_lt (blk_lt (bj_ BK322)) : gb322 ≠ gb323)); have n6_ := Aside0.mk ((by rw [hg]; exact Nat.ne_of_gt (blk_lt (bj_ BK322)) : gb323 ≠ gb322)); clear BK322; clear HB; have BK322 := n0_; have HB := n1_; have BK323 := n2_; have GW323 := n3_; have GE323 := n4_; have NB322_323 := n5_; have NB323_322 := n6_; clear n0_ n1_ n2_ n3_ n4_ n5_ n6_; clear hb hbox hg) | ((with_reducible refine gate_dst (N := 5) rfl ?_); refine bx_ 5 #[.int .i64 a2_0, .int .i64 a2_1, .int .i64 a2_2] 44 ?_; intro gb324 hg w8 hbox hb; have n0_ := bk_ BK322 hb; have n1_ := bk_ BK323 hb; have n2_ := Aside0.mk (below_step hb_ hb); have n3_ := Aside0.mk (hbox); have n4_ := Aside0.mk ((by rw [hg]; exact (below_size hb_) : w.heap.size ≤ gb324)); have n5_ := Aside0.mk ((by rw [hg]; exact (below_size hb_) : w.heap.size ≤ gb324)); have n6_ := Aside0.mk ((by rw [hg]; exact Nat.ne_of_lt (blk_lt (bj_ BK322)) : gb322 ≠ gb324)); have n7_ := Aside0.mk ((by rw [hg]; exact Nat.ne_of_gt (blk_lt (bj_ BK322)) : gb324 ≠ gb322)); have n8_ := Aside0.mk ((by rw [hg]; exact Nat.ne_of_lt (blk_lt (bj_ BK323)) : gb323 ≠ gb324)); have n9_ := Aside0.mk ((by rw [hg]; exact Nat.ne_of_gt (blk_lt (bj_ BK323)) : gb324 ≠ gb323)); clear BK322; clear BK323; clear HB; have BK322 := n0_; have BK323 := n1_; have HB := n2_; have BK324 := n3_; have GW324 := n4_; have GE324 := n5_; have NB322_324 := n6_; have NB324_322 := n7_; have NB323_324 := n8_; have NB324_323 := n9_; clear n0_ n1_ n2_ n3_ n4_ n5_ n6_ n7_ n8_ n9_; clear hb hbox hg))
 have n0_ := Aside0.mk (blk_drew BK322.out)
 have n1_ := Aside0.mk (blk_drew BK323.out)
 have n2_ := Aside0.mk (blk_drew BK324.out)
 have n3_ := Aside0.mk (below_drew1 HB.out)
 clear BK322
 clear BK323
 clear BK324
 clear HB
 have BK322 := n0_
 have BK323 := n1_
 have BK324 := n2_
 have HB := n3_
 clear n0_ n1_ n2_ n3_
 refine start_ (n := 7) (S := fun w' => w'.cell? ⟨gb322, 0, none⟩ = some (.int .i64 a0_0) ∧ w'.cell? ⟨gb322, 1, none⟩ = some (.slice A0_1 l0_1.length c0_1) ∧ w'.cell? ⟨gb322, 2, none⟩ = some (.int .i64 a0_2) ∧ w'.cell? ⟨gb322, 3, none⟩ = some (.int .i64 a0_3) ∧ w'.cell? ⟨gb322, 4, none⟩ = some (.slice A0_4 l0_4.length c0_4) ∧ w'.cell? ⟨gb322, 5, none⟩ = some (.slice A0_5 l0_5.length c0_5) ∧ w'.cell? ⟨gb323, 0, none⟩ = some (.int .i64 a1_0) ∧ w'.cell? ⟨gb323, 1, none⟩ = some (.int .i64 a1_1) ∧ w'.cell? ⟨gb323, 2, none⟩ = some (.int .i64 a1_2) ∧ w'.cell? ⟨gb324, 0, none⟩ = some (.int .i64 a2_0) ∧ w'.cell? ⟨gb324, 1, none⟩ = some (.int .i64 a2_1) ∧ w'.cell? ⟨gb324, 2, none⟩ = some (.int .i64 a2_2)) (ds := []) #[false, false, false, false, false, false, false] (by kernel_rfl) rfl rfl ⟨(blk_cell BK322.out 0).trans rfl, (blk_cell BK322.out 1).trans rfl, (blk_cell BK322.out 2).trans rfl, (blk_cell BK322.out 3).trans rfl, (blk_cell BK322.out 4).trans rfl, (blk_cell BK322.out 5).trans rfl, (blk_cell BK323.out 0).trans rfl, (blk_cell BK323.out 1).trans rfl, (blk_cell BK323.out 2).trans rfl, (blk_cell BK324.out 0).trans rfl, (blk_cell BK324.out 1).trans rfl, (blk_cell BK324.out 2).trans rfl⟩ (fun hHeld => ?_)
 generalize w8.drew = w9 at BK322 BK323 BK324 HB hHeld ⊢
 refine take_ (i := 0) (N := some 7) (v := ?_) (a' := ?_) (bl 7 1) rfl rfl (by kernel_rfl) (fun _ _ _ h => h) (Or.inl ⟨by rfl, ?_⟩) hHeld ?_ ?_
 rotate_left
 ·
  rintro w' ⟨s0, s1, s2, s3, s4, s5, s6, s7, s8, s9, s10, s11⟩
  go_simp
  with_reducible rfl
 rotate_left
 ·
  simp only [ap_, s0_, s1_, i64_w]
  rfl
 refine take_ (i := 1) (N := some 8) (v := ?_) (a' := ?_) (bl 7 3) rfl rfl (by kernel_rfl) (fun _ _ _ h => h) (Or.inl ⟨by rfl, ?_⟩) hHeld ?_ ?_
 rotate_left
 ·
  rintro w' ⟨s0, s1, s2, s3, s4, s5, s6, s7, s8, s9, s10, s11⟩
  go_simp
  with_reducible rfl
 rotate_left
 ·
  simp only [ap_, s0_, s1_, i64_w]
  rfl
 refine take_ (i := 2) (N := some 9) (v := ?_) (a' := ?_) (bl 7 7) rfl rfl (by kernel_rfl) (fun _ _ _ h => h) (Or.inl ⟨by rfl, ?_⟩) hHeld ?_ ?_
 rotate_left
 ·
  rintro w' ⟨s0, s1, s2, s3, s4, s5, s6, s7, s8, s9, s10, s11⟩
  go_simp
  with_reducible rfl
 rotate_left
 ·
  simp only [ap_, s0_, s1_, i64_w]
  rfl
 refine one_ (i := 3) (N := some 10) (bl 7 15) rfl rfl (by kernel_rfl) (by decide) (fun K hK => ?_)
 refine Kd.R_lit_step k44 _ 44 ?hg (N := 10) ?hd (xs := ([(⟨a1_0, a1_1, a1_2⟩ : S44), (⟨a2_0, a2_1, a2_2⟩ : S44)] : List (S44))) (inner := [.int .i64 a1_0, .int .i64 a1_1, .int .i64 a1_2, .int .i64 a2_0, .int .i64 a2_1, .int .i64 a2_2]) (ok := fun _ => True) (okp := fun _ => True) ?hr ?hp (fun _ hk => hk) trivial (Below.refl _ _) (Nat.le_refl _) (by simp) ?_; (case hd => rfl); (case hg => rfl); (case hr => first | (go_simp; done) | (go_simp; rfl)); (case hp => exact (Reps.c3 (show Kd.M k44 _ _ _ (⟨a1_0, a1_1, a1_2⟩ : S44) [.int .i64 a1_0, .int .i64 a1_1, .int .i64 a1_2] from (k44_mkM _ _ _ (⟨a1_0, a1_1, a1_2⟩ : S44) )) (Reps.c3 (show Kd.M k44 _ _ _ (⟨a2_0, a2_1, a2_2⟩ : S44) [.int .i64 a2_0, .int .i64 a2_1, .int .i64 a2_2] from (k44_mkM _ _ _ (⟨a2_0, a2_1, a2_2⟩ : S44) )) (Reps.none _ _))))
 intro v326 w10 ho11 hb hg_ hnew_
 clear hg_ hnew_
 (first | rw [← Ny325.out] at ho11 | (simp only [Int.reduceToNat] at ho11; rw [← Ny325.out] at ho11))
 have n0_ := Aside0.mk (Kd.R_lower (Kd.R_newB (Kd.R_newB ho11 (bj_ BK323)) (bj_ BK324)) (below_size hb_))
 have n1_ := bk_ BK322 hb
 have n2_ := bk_ BK323 hb
 have n3_ := bk_ BK324 hb
 have n4_ := Aside0.mk (below_step hb_ hb)
 clear BK322
 clear BK323
 clear BK324
 clear HB
 have HO327 := n0_
 have BK322 := n1_
 have BK323 := n2_
 have BK324 := n3_
 have HB := n4_
 clear n0_ n1_ n2_ n3_ n4_
 clear hb ho11
 obtain ⟨Ao12, co12, eo12⟩ := Kd.R_slice HO327.out
 (first | subst eo12 | (injection eo12 with f1_ f2_ f3_; have f4_ := f1_.symm; have f5_ := f3_.symm; clear f1_ f2_ f3_; subst f4_; subst f5_))
 refine hK.out _ _ ⟨(blk_cell BK322.out 0).trans rfl, (blk_cell BK322.out 1).trans rfl, (blk_cell BK322.out 2).trans rfl, (blk_cell BK322.out 3).trans rfl, (blk_cell BK322.out 4).trans rfl, (blk_cell BK322.out 5).trans rfl, (blk_cell BK323.out 0).trans rfl, (blk_cell BK323.out 1).trans rfl, (blk_cell BK323.out 2).trans rfl, (blk_cell BK324.out 0).trans rfl, (blk_cell BK324.out 1).trans rfl, (blk_cell BK324.out 2).trans rfl⟩ (fun hHeld => ?_)
 clear hK K
 refine norm_ (a' := ?_) ?_ ?_
 rotate_left
 ·
  show Act.put _ (some 10) _ = _
  simp only [ap_, s0_, s1_, i64_w]
  rfl
 refine one_ (i := 4) (N := some 11) (bl 7 31) rfl rfl (by kernel_rfl) (by decide) (fun K hK => ?_)
 refine goes_ Try.func50 (by kernel_rfl) rfl #[.slice Ao12 y325.length co12] (by rfl) rfl rfl am_ ?_
 with_reducible refine (hopmeshref34_Cells.calls k _ _ y325 t328 _ ?side1 ?side2 A4.out).mono ?_
 (case side1 => repeat (first | exact (Kd.R_reads' HO327.out).2.2 | (with_reducible refine Kd.C_alloc ?_ _) | (with_reducible refine Kd.C_drewN ?_ _) | (with_reducible refine Kd.C_drew ?_)))
 (case side2 => exact (Kd.R_reads' HO327.out).2.1)
 rintro e w13 ⟨v329, rfl, ho0, hb⟩
 refine ⟨_, rfl, ?_⟩
 have n0_ := Aside0.mk (Kd.R_below (kr_ HO327) hb)
 have n1_ := Aside0.mk (Kd.R_lower ho0 (below_size hb_))
 have n2_ := bk_ BK322 hb
 have n3_ := bk_ BK323 hb
 have n4_ := bk_ BK324 hb
 have n5_ := Aside0.mk (below_step hb_ hb)
 clear HO327
 clear BK322
 clear BK323
 clear BK324
 clear HB
 have HO327 := n0_
 have HO330 := n1_
 have BK322 := n2_
 have BK323 := n3_
 have BK324 := n4_
 have HB := n5_
 clear n0_ n1_ n2_ n3_ n4_ n5_
 (try clear hb)
 (try clear hb2)
 (try clear hk)
 (try clear hi)
 (try clear ho0)
 obtain ⟨Ao14, co14, eo14⟩ := Kd.R_slice HO330.out
 (first | subst eo14 | (injection eo14 with f1_ f2_ f3_; have f4_ := f1_.symm; have f5_ := f3_.symm; clear f1_ f2_ f3_; subst f4_; subst f5_))
 refine hK.out _ _ ⟨(blk_cell BK322.out 0).trans rfl, (blk_cell BK322.out 1).trans rfl, (blk_cell BK322.out 2).trans rfl, (blk_cell BK322.out 3).trans rfl, (blk_cell BK322.out 4).trans rfl, (blk_cell BK322.out 5).trans rfl, (blk_cell BK323.out 0).trans rfl, (blk_cell BK323.out 1).trans rfl, (blk_cell BK323.out 2).trans rfl, (blk_cell BK324.out 0).trans rfl, (blk_cell BK324.out 1).trans rfl, (blk_cell BK324.out 2).trans rfl⟩ (fun hHeld => ?_)
 clear hK K
 refine norm_ (a' := ?_) ?_ ?_
 rotate_left
 ·
  show Act.put _ (some 11) _ = _
  simp only [ap_, s0_, s1_, i64_w]
  rfl
 refine one_ (i := 5) (N := some 12) (bl 7 63) rfl rfl (by kernel_rfl) (by decide) (fun K hK => ?_)
 refine goes_ Try.func22 (by kernel_rfl) rfl #[.agg #[.int .i64 a0_0, .slice A0_1 l0_1.length c0_1, .int .i64 a0_2, .int .i64 a0_3, .slice A0_4 l0_4.length c0_4, .slice A0_5 l0_5.length c0_5], .slice Ao14 t328.length co14] (by rfl) rfl rfl am_ ?_
 with_reducible refine (hopmeshref34_Good.calls k a0_0 _ _ l0_1 a0_2 a0_3 _ _ l0_4 _ _ l0_5 _ _ t328 t331 _ ?side1 ?side2 ?side3 ?side4 ?side5 ?side6 ?side7 ?side8 A5.out).mono ?_
 (case side1 | side3 | side5 => exact cb_)
 (case side2 | side4 | side6 => first | exact HC0_1.out | exact HC0_4.out | exact HC0_5.out)
 (case side7 => repeat (first | exact (Kd.R_reads' HO330.out).2.2 | (with_reducible refine Kd.C_alloc ?_ _) | (with_reducible refine Kd.C_drewN ?_ _) | (with_reducible refine Kd.C_drew ?_)))
 (case side8 => exact (Kd.R_reads' HO330.out).2.1)
 rintro e w15 ⟨rfl, hb⟩
 refine ⟨_, rfl, ?_⟩
 have n0_ := Aside0.mk (Kd.R_below (kr_ HO327) hb)
 have n1_ := Aside0.mk (Kd.R_below (kr_ HO330) hb)
 have n2_ := bk_ BK322 hb
 have n3_ := bk_ BK323 hb
 have n4_ := bk_ BK324 hb
 have n5_ := Aside0.mk (below_step hb_ hb)
 clear HO327
 clear HO330
 clear BK322
 clear BK323
 clear BK324
 clear HB
 have HO327 := n0_
 have HO330 := n1_
 have BK322 := n2_
 have BK323 := n3_
 have BK324 := n4_
 have HB := n5_
 clear n0_ n1_ n2_ n3_ n4_ n5_
 (try clear hb)
 (try clear hb2)
 (try clear hk)
 (try clear hi)
 refine hK.out _ _ ⟨(blk_cell BK322.out 0).trans rfl, (blk_cell BK322.out 1).trans rfl, (blk_cell BK322.out 2).trans rfl, (blk_cell BK322.out 3).trans rfl, (blk_cell BK322.out 4).trans rfl, (blk_cell BK322.out 5).trans rfl, (blk_cell BK323.out 0).trans rfl, (blk_cell BK323.out 1).trans rfl, (blk_cell BK323.out 2).trans rfl, (blk_cell BK324.out 0).trans rfl, (blk_cell BK324.out 1).trans rfl, (blk_cell BK324.out 2).trans rfl⟩ (fun hHeld => ?_)
 clear hK K
 refine norm_ (a' := ?_) ?_ ?_
 rotate_left
 ·
  show Act.put _ (some 12) _ = _
  simp only [ap_, s0_, s1_, i64_w]
  rfl
 refine pure_ (i := 6) (N := some 6) (v := ?_) (a' := ?_) (bl 7 127) rfl rfl (by kernel_rfl) (fun _ _ _ h => h) (Or.inl ⟨by rfl, ?_⟩) ?_ ?_
 rotate_left
 ·
  intro w'
  go_simp
  with_reducible rfl
 rotate_left
 ·
  simp only [ap_, s0_, s1_, i64_w]
  rfl
 refine done_ (by kernel_rfl) ?_
 try go_wp2
 go_ret
 exact ⟨er_, hb_⟩

end Go.Proofs.Ytibgcekekmphoaa.P34
