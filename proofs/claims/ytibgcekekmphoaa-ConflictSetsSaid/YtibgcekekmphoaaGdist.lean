/- slices.ContainsFunc over cells by conflict.Disturbance's predicate, and conflict.Disturbance itself. -/
import Derived.Test.YtibgcekekmphoaaGidx
import Derived.Test.YtibgcekekmphoaaP34I
import Derived.Test.YtibgcekekmphoaaP34N
namespace Go.Proofs.Ytibgcekekmphoaa.P34
open Go.RowKit Go.Proofs.YtibgcekekmphoaaW.PrintWords Go.Proofs.YtibgcekekmphoaaW.PrintLast Go.Proofs.YtibgcekekmphoaaW.PrintMore
attribute [local go_sem] max2_int min2_int max_two min_two max_three min_three max_four min_four
set_option linter.unusedVariables false
set_option linter.unusedSimpArgs false

def nodeB (m x : Int) : Bool := decide (0 ≤ x) && decide (x < m)
theorem isNode_eq (a0_0 : Int) (l0_1 : List (List Int)) (a0_2 : Int) (a0_3 : Int) (l0_4 : List (S44)) (l0_5 : List Int) (x : Int) : conflict_isNode.f a0_0 l0_1 a0_2 a0_3 l0_4 l0_5 x = some (nodeB a0_0 x) := by
  unfold conflict_isNode.f nodeB
  by_cases h : 0 ≤ x <;> simp [h]
def noEnd (m : Int) (c : S36) : Bool := !nodeB m c.f2 || !nodeB m c.f3

set_option maxRecDepth 100000 in
set_option maxHeartbeats 1000000 in
theorem call36 (B : Nat) (a0_0 : Int) (A0_1 : Option Addr) (c0_1 : Nat) (l0_1 : List (List Int)) (a0_2 : Int) (a0_3 : Int) (A0_4 : Option Addr) (c0_4 : Nat) (l0_4 : List (S44)) (A0_5 : Option Addr) (c0_5 : Nat) (l0_5 : List Int) (C0 C1 C2 C3 C4 : Int) (w : World) (hr0_1 : Kd.C (Kd.slice 3 (Kd.int .i64)) w A0_1 l0_1.length l0_1) (hc0_1 : l0_1.length ≤ c0_1) (hr0_4 : Kd.C k44 w A0_4 l0_4.length l0_4) (hc0_4 : l0_4.length ≤ c0_4) (hr0_5 : Kd.C (Kd.int .i64) w A0_5 l0_5.length l0_5) (hc0_5 : l0_5.length ≤ c0_5) (hB : w.heap[B]? = some (.cells #[.int .i64 a0_0, .slice A0_1 l0_1.length c0_1, .int .i64 a0_2, .int .i64 a0_3, .slice A0_4 l0_4.length c0_4, .slice A0_5 l0_5.length c0_5] 26 (0, 0))) :
    Calls Try.prog 36 #[.agg #[.int .i64 C0, .int .i64 C1, .int .i64 C2, .int .i64 C3, .int .i64 C4], .pointer (some ⟨B, 0, none⟩)] w fun e w' => e = .returned (.bool (!nodeB a0_0 C2 || !nodeB a0_0 C3)) ∧ Below w.heap.size w w' := by
  have hu26 := Try.underlying26
  have hu36 := Try.underlying36
  have HN := Aside0.mk (fun (x : Int) (W : World) (hb : Below w.heap.size w W) => conflict_isNode.calls a0_0 A0_1 c0_1 l0_1 a0_2 a0_3 A0_4 c0_4 l0_4 A0_5 c0_5 l0_5 x _ W (Kd.C_below hr0_1 hb) hc0_1 (Kd.C_below hr0_4 hb) hc0_4 (Kd.C_below hr0_5 hb) hc0_5 (isNode_eq _ _ _ _ _ _ x))
  have BB := Aside0.mk hB
  clear hr0_1 hr0_4 hr0_5 hc0_1 hc0_4 hc0_5 hB
  generalize hx : nodeB a0_0 C2 = x
  generalize hy : nodeB a0_0 C3 = y
  have Hx := Aside0.mk (fun W hb => (hx ▸ HN.out C2 W hb : Calls Try.prog 37 _ W fun e w' => e = .returned (.bool x) ∧ Below W.heap.size W w'))
  have Hy := Aside0.mk (fun W hb => (hy ▸ HN.out C3 W hb : Calls Try.prog 37 _ W fun e w' => e = .returned (.bool y) ∧ Below W.heap.size W w'))
  clear hx hy HN
  go_enter Try.func36, Try.ntmps36
  go_wp2_with ((with_reducible refine gate_dst (N := 2) rfl ?_); refine box_event ?hg (N := 2) ?hd (cs := #[.int .i64 C0, .int .i64 C1, .int .i64 C2, .int .i64 C3, .int .i64 C4]) (t := 36) ?hr ?_; (case hd => rfl); (case hg => rfl); (case hr => first | (go_simp; done) | (go_simp; rfl)); intro gc hg w4 hbox hb; have Bgc := Aside0.mk hbox; have Hgc := Aside0.mk hb; have Ggc := Aside0.mk hg; have hzgc_0 := (blk_cell hbox 0).trans rfl; have hzgc_1 := (blk_cell hbox 1).trans rfl; have hzgc_2 := (blk_cell hbox 2).trans rfl; have hzgc_3 := (blk_cell hbox 3).trans rfl; have hzgc_4 := (blk_cell hbox 4).trans rfl; clear hb hbox hg; have B4 := Aside0.mk (blk_below BB.out Hgc.out); have z0 := (blk_cell B4.out 0).trans rfl; have z1 := (blk_cell B4.out 1).trans rfl; have z2 := (blk_cell B4.out 2).trans rfl; have z3 := (blk_cell B4.out 3).trans rfl; have z4 := (blk_cell B4.out 4).trans rfl; have z5 := (blk_cell B4.out 5).trans rfl)
  go_wp2_with fail
  refine (Hx.out _ Hgc.out).mono ?_
  rintro e w5 ⟨rfl, hb5⟩
  have H5 := Aside0.mk hb5
  clear hb5
  cases x with
  | false =>
    go_wp2
    go_ret
    exact ⟨rfl, below_step Hgc.out H5.out⟩
  | true =>
    have B5 := Aside0.mk (blk_below B4.out H5.out)
    have C5 := Aside0.mk (blk_below Bgc.out H5.out)
    clear z0 z1 z2 z3 z4 z5 hzgc_0 hzgc_1 hzgc_2 hzgc_3 hzgc_4
    have z0 := (blk_cell B5.out 0).trans rfl
    have z1 := (blk_cell B5.out 1).trans rfl
    have z2 := (blk_cell B5.out 2).trans rfl
    have z3 := (blk_cell B5.out 3).trans rfl
    have z4 := (blk_cell B5.out 4).trans rfl
    have z5 := (blk_cell B5.out 5).trans rfl
    have y3 := (blk_cell C5.out 3).trans rfl
    go_wp2_with fail
    refine (Hy.out _ (below_step Hgc.out H5.out)).mono ?_
    rintro e w6 ⟨rfl, hb6⟩
    have H6 := Aside0.mk hb6
    clear hb6
    go_wp2
    go_ret
    exact ⟨by cases y <;> rfl, below_step (below_step Hgc.out H5.out) H6.out⟩

theorem idx60_36 (B : Nat) (A : Option Addr) (c : Nat) (l : List S36) (p : S36 → Bool) (w : World) (hr : Kd.C k36 w A l.length l)
    (hp : ∀ (W : World) (x : S36), Below w.heap.size w W → Calls Try.prog 36 #[.agg #[.int .i64 x.f0, .int .i64 x.f1, .int .i64 x.f2, .int .i64 x.f3, .int .i64 x.f4], .pointer (some ⟨B, 0, none⟩)] W fun e w' => e = .returned (.bool (p x)) ∧ Below w.heap.size w w') :
    Calls Try.prog 60 #[.slice A l.length c, .func (.func 36) #[] #[.pointer (some ⟨B, 0, none⟩)]] w fun e w' => e = .returned (.int .i64 (idx (fun j => p (rd_T36 l (j : Int))) l.length)) ∧ Below w.heap.size w w' := by
  have Hp := Aside0.mk hp
  have HR := Aside0.mk hr
  have hbig := hr.2.1
  clear hp hr
  go_enter Try.func60, Try.ntmps60
  go_wp2
  go_loopg [5, 8] l.length (fun gg _ s8 wr => ∃ kk : Nat, kk ≤ l.length ∧ l.length - kk ≤ gg ∧ s8 = .int .i64 kk ∧ Aside0 (Below w.heap.size w wr) ∧ Aside0 (∀ j, j < kk → p (rd_T36 l (j : Int)) = false))
  case atStart => exact ⟨0, Nat.zero_le _, by omega, rfl, ⟨Below.refl _ w⟩, ⟨fun j hj => absurd hj (Nat.not_lt_zero _)⟩⟩
  case round =>
    obtain ⟨kk, hkk, hg, rfl, BW, A0⟩ := hrel
    by_cases hlt : kk < l.length
    · have hltz : (kk : Int) < (l.length : Int) := by omega
      obtain ⟨ad, rfl, x0, x1, x2, x3, x4⟩ := at_T36 HR.out (kk : Int) (by omega) (by omega)
      replace x0 := (BW.out.cell (World.block_lt_of_cell? w _ x0)).trans x0
      replace x1 := (BW.out.cell (World.block_lt_of_cell? w _ x1)).trans x1
      replace x2 := (BW.out.cell (World.block_lt_of_cell? w _ x2)).trans x2
      replace x3 := (BW.out.cell (World.block_lt_of_cell? w _ x3)).trans x3
      replace x4 := (BW.out.cell (World.block_lt_of_cell? w _ x4)).trans x4
      rw [Int.toNat_natCast] at x0 x1 x2 x3 x4
      have hcall := Hp.out wr (rd_T36 l (kk : Int)) BW.out
      cases hq : p (rd_T36 l (kk : Int)) with
      | true =>
        rw [hq] at hcall
        have Hq := Aside0.mk hq
        have HC := Aside0.mk hcall
        clear hq hcall
        generalize (rd_T36 l (kk : Int)).f0 = y0 at x0 HC
        generalize (rd_T36 l (kk : Int)).f1 = y1 at x1 HC
        generalize (rd_T36 l (kk : Int)).f2 = y2 at x2 HC
        generalize (rd_T36 l (kk : Int)).f3 = y3 at x3 HC
        generalize (rd_T36 l (kk : Int)).f4 = y4 at x4 HC
        go_wp2_with (go_at_call 36; refine HC.out.mono ?_; rintro e w' ⟨rfl, hb'⟩)
        go_ret
        exact ⟨by rw [idx_hit hlt Hq.out A0.out]; rfl, hb'⟩
      | false =>
        rw [hq] at hcall
        have Hq := Aside0.mk hq
        have HC := Aside0.mk hcall
        clear hq hcall
        generalize (rd_T36 l (kk : Int)).f0 = y0 at x0 HC
        generalize (rd_T36 l (kk : Int)).f1 = y1 at x1 HC
        generalize (rd_T36 l (kk : Int)).f2 = y2 at x2 HC
        generalize (rd_T36 l (kk : Int)).f3 = y3 at x3 HC
        generalize (rd_T36 l (kk : Int)).f4 = y4 at x4 HC
        go_wp2_with (go_at_call 36; refine HC.out.mono ?_; rintro e w' ⟨rfl, hb'⟩)
        go_roundg (l.length - (kk + 1))
        case measure => omega
        case rel =>
          refine ⟨kk + 1, by omega, by omega, by go_num, ⟨hb'⟩, ⟨fun j hj => ?_⟩⟩
          by_cases e : j = kk
          · subst e; exact Hq.out
          · exact A0.out j (by omega)
    · have hltz : ¬ (kk : Int) < (l.length : Int) := by omega
      have hkl : kk = l.length := by omega
      rw [hkl] at A0
      rw [hkl]
      clear hkl hg hkk hlt hltz
      have hltz : ¬ (l.length : Int) < (l.length : Int) := by omega
      go_wp2
      go_ret
      exact ⟨by rw [idx_miss A0.out]; rfl, BW.out⟩

def anyNoEnd (m : Int) (l : List S36) : Bool := (List.range l.length).any fun j => noEnd m (rd_T36 l (j : Int))
theorem con38_36 (B : Nat) (A : Option Addr) (c : Nat) (l : List S36) (m : Int) (w : World) (hr : Kd.C k36 w A l.length l)
    (hp : ∀ (W : World) (x : S36), Below w.heap.size w W → Calls Try.prog 36 #[.agg #[.int .i64 x.f0, .int .i64 x.f1, .int .i64 x.f2, .int .i64 x.f3, .int .i64 x.f4], .pointer (some ⟨B, 0, none⟩)] W fun e w' => e = .returned (.bool (noEnd m x)) ∧ Below w.heap.size w w') :
    Calls Try.prog 38 #[.slice A l.length c, .func (.func 36) #[] #[.pointer (some ⟨B, 0, none⟩)]] w fun e w' => e = .returned (.bool (anyNoEnd m l)) ∧ Below w.heap.size w w' := by
  have HC := Aside0.mk (idx60_36 B A c l (noEnd m) w hr hp)
  have hr2 : decide (idx (fun j => noEnd m (rd_T36 l (j : Int))) l.length ≥ 0) = anyNoEnd m l := idx_any _ _
  clear hr hp
  generalize idx (fun j => noEnd m (rd_T36 l (j : Int))) l.length = r at HC hr2
  generalize anyNoEnd m l = q at hr2 ⊢
  have Hr := Aside0.mk hr2
  clear hr2
  go_enter Try.func38, Try.ntmps38
  go_wp2_with (go_at_call 60; refine HC.out.mono ?_; rintro e w' ⟨rfl, hb'⟩)
  go_ret
  exact ⟨by rw [← Hr.out]; rfl, hb'⟩

def conflict_Disturbance.f (k : Nat) (a0_0 : Int) (l0_1 : List (List Int)) (a0_2 : Int) (a0_3 : Int) (l0_4 : List (S44)) (l0_5 : List Int) (l1 : List S36) (a2 a3 : Int) : Option Int :=
  (network_Check.f k a0_0 l0_1 a0_2 a0_3 l0_4 l0_5).bind fun e => if e = 0 then (if a2 < 0 then some 0 else if (l1.length : Int) ≤ a2 then some 0 else if nodeB a0_0 a3 = true then (if anyNoEnd a0_0 l1 = true then some 0 else conflict_disturbance.f k a0_0 l0_1 a0_2 a0_3 l0_4 l0_5 l1 a2 a3) else some 0) else some 0
theorem conflict_Disturbance.mono : ∀ a0 a1 a2 a3 a4 a5 a6 a7 a8 k, LeO (conflict_Disturbance.f k a0 a1 a2 a3 a4 a5 a6 a7 a8) (conflict_Disturbance.f (k + 1) a0 a1 a2 a3 a4 a5 a6 a7 a8) := by
  intro a0 a1 a2 a3 a4 a5 a6 a7 a8 k
  unfold conflict_Disturbance.f
  repeat' first
    | exact network_Check.mono _ _ _ _ _ _ _
    | exact conflict_disturbance.mono _ _ _ _ _ _ _ _ _ _
    | exact LeO.refl _
    | refine LeO.ite ?_ ?_
    | refine LeO.bind ?_ (fun _ => ?_)

set_option maxRecDepth 100000 in
set_option maxHeartbeats 2000000 in
theorem conflict_Disturbance.calls (k : Nat) (a0_0 : Int) (A0_1 : Option Addr) (c0_1 : Nat) (l0_1 : List (List Int)) (a0_2 : Int) (a0_3 : Int) (A0_4 : Option Addr) (c0_4 : Nat) (l0_4 : List (S44)) (A0_5 : Option Addr) (c0_5 : Nat) (l0_5 : List Int) (A1 : Option Addr) (c1 : Nat) (l1 : List (S36)) (a2 : Int) (a3 : Int) (r : Int) (w : World) (hr0_1 : Kd.C (Kd.slice 3 (Kd.int .i64)) w A0_1 l0_1.length l0_1) (hc0_1 : l0_1.length ≤ c0_1) (hr0_4 : Kd.C k44 w A0_4 l0_4.length l0_4) (hc0_4 : l0_4.length ≤ c0_4) (hr0_5 : Kd.C (Kd.int .i64) w A0_5 l0_5.length l0_5) (hc0_5 : l0_5.length ≤ c0_5) (hr1 : Kd.C k36 w A1 l1.length l1) (hc1 : l1.length ≤ c1) (h : conflict_Disturbance.f k a0_0 l0_1 a0_2 a0_3 l0_4 l0_5 l1 a2 a3 = some r) :
    Calls Try.prog 13 #[.agg #[.int .i64 a0_0, .slice A0_1 l0_1.length c0_1, .int .i64 a0_2, .int .i64 a0_3, .slice A0_4 l0_4.length c0_4, .slice A0_5 l0_5.length c0_5], .slice A1 l1.length c1, .int .i64 a2, .int .i64 a3] w fun e w' => e = .returned (.int .i64 r) ∧ Below w.heap.size w w' := by
  have hu26 := Try.underlying26
  have hu36 := Try.underlying36
  unfold conflict_Disturbance.f at h
  obtain ⟨ec, hce, h⟩ := Option.bind_eq_some_iff.mp h
  have HCk := Aside0.mk (fun (W : World) (hb : Below w.heap.size w W) => network_Check.calls k a0_0 A0_1 c0_1 l0_1 a0_2 a0_3 A0_4 c0_4 l0_4 A0_5 c0_5 l0_5 ec W (Kd.C_below hr0_1 hb) hc0_1 (Kd.C_below hr0_4 hb) hc0_4 (Kd.C_below hr0_5 hb) hc0_5 hce)
  have HN := Aside0.mk (fun (W : World) (hb : Below w.heap.size w W) => conflict_isNode.calls a0_0 A0_1 c0_1 l0_1 a0_2 a0_3 A0_4 c0_4 l0_4 A0_5 c0_5 l0_5 a3 _ W (Kd.C_below hr0_1 hb) hc0_1 (Kd.C_below hr0_4 hb) hc0_4 (Kd.C_below hr0_5 hb) hc0_5 (isNode_eq _ _ _ _ _ _ a3))
  have H36 := Aside0.mk (fun (B : Nat) (W : World) (hb : Below w.heap.size w W) (hB : W.heap[B]? = some (.cells #[.int .i64 a0_0, .slice A0_1 l0_1.length c0_1, .int .i64 a0_2, .int .i64 a0_3, .slice A0_4 l0_4.length c0_4, .slice A0_5 l0_5.length c0_5] 26 (0, 0))) => con38_36 B A1 c1 l1 a0_0 W (Kd.C_below hr1 hb) (fun V x hV =>
    (call36 B a0_0 A0_1 c0_1 l0_1 a0_2 a0_3 A0_4 c0_4 l0_4 A0_5 c0_5 l0_5 x.f0 x.f1 x.f2 x.f3 x.f4 V (Kd.C_below (Kd.C_below hr0_1 hb) hV) hc0_1 (Kd.C_below (Kd.C_below hr0_4 hb) hV) hc0_4 (Kd.C_below (Kd.C_below hr0_5 hb) hV) hc0_5 (blk_below hB hV)).mono (fun e w' hq => ⟨hq.1, below_step hV hq.2⟩)))
  have HD := Aside0.mk (fun (hd : conflict_disturbance.f k a0_0 l0_1 a0_2 a0_3 l0_4 l0_5 l1 a2 a3 = some r) (W : World) (hb : Below w.heap.size w W) => conflict_disturbance.calls k a0_0 A0_1 c0_1 l0_1 a0_2 a0_3 A0_4 c0_4 l0_4 A0_5 c0_5 l0_5 A1 c1 l1 a2 a3 r W (Kd.C_below hr0_1 hb) hc0_1 (Kd.C_below hr0_4 hb) hc0_4 (Kd.C_below hr0_5 hb) hc0_5 (Kd.C_below hr1 hb) hc1 hd)
  have H := Aside0.mk h
  have hn1 := hr1.2.1
  clear h hce hr0_1 hr0_4 hr0_5 hc0_1 hc0_4 hc0_5 hr1 hc1
  generalize nodeB a0_0 a3 = bn at HN H
  generalize anyNoEnd a0_0 l1 = ba at H36 H
  have hm0 : (0 : Int) ≤ (l1.length : Int) := by omega
  by_cases he : ec = 0
  · subst he
    replace H := Aside0.mk ((if_pos rfl).symm.trans H.out)
    by_cases h2 : a2 < 0
    · obtain rfl := Option.some.inj ((if_pos h2).symm.trans H.out)
      have h2d : decide (a2 < 0) = true := decide_eq_true h2
      (go_enter Try.func13, Try.ntmps13); (go_wp2_with (first | ((with_reducible refine gate_dst (N := 4) rfl ?_); refine box_event ?hg (N := 4) ?hd (cs := #[.int .i64 a0_0, .slice A0_1 l0_1.length c0_1, .int .i64 a0_2, .int .i64 a0_3, .slice A0_4 l0_4.length c0_4, .slice A0_5 l0_5.length c0_5]) (t := 26) ?hr ?_; (case hd => rfl); (case hg => rfl); (case hr => first | (go_simp; done) | (go_simp; rfl)); intro gb hg w4 hbox hb; have Bgb := Aside0.mk hbox; have Hgb := Aside0.mk hb; have Ggb := Aside0.mk hg; have z0 := (blk_cell hbox 0).trans rfl; have z1 := (blk_cell hbox 1).trans rfl; have z2 := (blk_cell hbox 2).trans rfl; have z3 := (blk_cell hbox 3).trans rfl; have z4 := (blk_cell hbox 4).trans rfl; have z5 := (blk_cell hbox 5).trans rfl; clear hb hbox hg) | (go_at_call 15; refine (HCk.out _ Hgb.out).mono ?_; rintro e w5 ⟨rfl, hb5⟩; have H5 := Aside0.mk hb5; have B5 := Aside0.mk (blk_below Bgb.out hb5); clear hb5; clear z0 z1 z2 z3 z4 z5; have z0 := (blk_cell B5.out 0).trans rfl; have z1 := (blk_cell B5.out 1).trans rfl; have z2 := (blk_cell B5.out 2).trans rfl; have z3 := (blk_cell B5.out 3).trans rfl; have z4 := (blk_cell B5.out 4).trans rfl; have z5 := (blk_cell B5.out 5).trans rfl)))
      go_ret
      exact ⟨rfl, by first | exact Hg5.out | exact below_step Hgb.out H5.out⟩
    · replace H := Aside0.mk ((if_neg h2).symm.trans H.out)
      have h2d : decide (a2 < 0) = false := decide_eq_false h2
      by_cases h3 : (l1.length : Int) ≤ a2
      · obtain rfl := Option.some.inj ((if_pos h3).symm.trans H.out)
        have h3d : decide ((l1.length : Int) ≤ a2) = true := decide_eq_true h3
        (go_enter Try.func13, Try.ntmps13); (go_wp2_with (first | ((with_reducible refine gate_dst (N := 4) rfl ?_); refine box_event ?hg (N := 4) ?hd (cs := #[.int .i64 a0_0, .slice A0_1 l0_1.length c0_1, .int .i64 a0_2, .int .i64 a0_3, .slice A0_4 l0_4.length c0_4, .slice A0_5 l0_5.length c0_5]) (t := 26) ?hr ?_; (case hd => rfl); (case hg => rfl); (case hr => first | (go_simp; done) | (go_simp; rfl)); intro gb hg w4 hbox hb; have Bgb := Aside0.mk hbox; have Hgb := Aside0.mk hb; have Ggb := Aside0.mk hg; have z0 := (blk_cell hbox 0).trans rfl; have z1 := (blk_cell hbox 1).trans rfl; have z2 := (blk_cell hbox 2).trans rfl; have z3 := (blk_cell hbox 3).trans rfl; have z4 := (blk_cell hbox 4).trans rfl; have z5 := (blk_cell hbox 5).trans rfl; clear hb hbox hg) | (go_at_call 15; refine (HCk.out _ Hgb.out).mono ?_; rintro e w5 ⟨rfl, hb5⟩; have H5 := Aside0.mk hb5; have B5 := Aside0.mk (blk_below Bgb.out hb5); clear hb5; clear z0 z1 z2 z3 z4 z5; have z0 := (blk_cell B5.out 0).trans rfl; have z1 := (blk_cell B5.out 1).trans rfl; have z2 := (blk_cell B5.out 2).trans rfl; have z3 := (blk_cell B5.out 3).trans rfl; have z4 := (blk_cell B5.out 4).trans rfl; have z5 := (blk_cell B5.out 5).trans rfl)))
        go_ret
        exact ⟨rfl, below_step Hgb.out H5.out⟩
      · replace H := Aside0.mk ((if_neg h3).symm.trans H.out)
        have h3d : decide ((l1.length : Int) ≤ a2) = false := decide_eq_false h3
        cases bn with
        | false =>
          obtain rfl := Option.some.inj ((if_neg (by simp)).symm.trans H.out)
          (go_enter Try.func13, Try.ntmps13); (go_wp2_with (first | ((with_reducible refine gate_dst (N := 4) rfl ?_); refine box_event ?hg (N := 4) ?hd (cs := #[.int .i64 a0_0, .slice A0_1 l0_1.length c0_1, .int .i64 a0_2, .int .i64 a0_3, .slice A0_4 l0_4.length c0_4, .slice A0_5 l0_5.length c0_5]) (t := 26) ?hr ?_; (case hd => rfl); (case hg => rfl); (case hr => first | (go_simp; done) | (go_simp; rfl)); intro gb hg w4 hbox hb; have Bgb := Aside0.mk hbox; have Hgb := Aside0.mk hb; have Ggb := Aside0.mk hg; have z0 := (blk_cell hbox 0).trans rfl; have z1 := (blk_cell hbox 1).trans rfl; have z2 := (blk_cell hbox 2).trans rfl; have z3 := (blk_cell hbox 3).trans rfl; have z4 := (blk_cell hbox 4).trans rfl; have z5 := (blk_cell hbox 5).trans rfl; clear hb hbox hg) | (go_at_call 15; refine (HCk.out _ Hgb.out).mono ?_; rintro e w5 ⟨rfl, hb5⟩; have H5 := Aside0.mk hb5; have B5 := Aside0.mk (blk_below Bgb.out hb5); clear hb5; clear z0 z1 z2 z3 z4 z5; have z0 := (blk_cell B5.out 0).trans rfl; have z1 := (blk_cell B5.out 1).trans rfl; have z2 := (blk_cell B5.out 2).trans rfl; have z3 := (blk_cell B5.out 3).trans rfl; have z4 := (blk_cell B5.out 4).trans rfl; have z5 := (blk_cell B5.out 5).trans rfl) | (go_at_call 37; refine (HN.out _ (below_step Hgb.out H5.out)).mono ?_; rintro e w6 ⟨rfl, hb6⟩; have H6 := Aside0.mk (below_step (below_step Hgb.out H5.out) hb6); have B6 := Aside0.mk (blk_below B5.out hb6); clear hb6; clear z0 z1 z2 z3 z4 z5; have z0 := (blk_cell B6.out 0).trans rfl; have z1 := (blk_cell B6.out 1).trans rfl; have z2 := (blk_cell B6.out 2).trans rfl; have z3 := (blk_cell B6.out 3).trans rfl; have z4 := (blk_cell B6.out 4).trans rfl; have z5 := (blk_cell B6.out 5).trans rfl)))
          go_ret
          exact ⟨rfl, H6.out⟩
        | true =>
          replace H := Aside0.mk ((if_pos rfl).symm.trans H.out)
          cases ba with
          | true =>
            obtain rfl := Option.some.inj ((if_pos rfl).symm.trans H.out)
            (go_enter Try.func13, Try.ntmps13); (go_wp2_with (first | ((with_reducible refine gate_dst (N := 4) rfl ?_); refine box_event ?hg (N := 4) ?hd (cs := #[.int .i64 a0_0, .slice A0_1 l0_1.length c0_1, .int .i64 a0_2, .int .i64 a0_3, .slice A0_4 l0_4.length c0_4, .slice A0_5 l0_5.length c0_5]) (t := 26) ?hr ?_; (case hd => rfl); (case hg => rfl); (case hr => first | (go_simp; done) | (go_simp; rfl)); intro gb hg w4 hbox hb; have Bgb := Aside0.mk hbox; have Hgb := Aside0.mk hb; have Ggb := Aside0.mk hg; have z0 := (blk_cell hbox 0).trans rfl; have z1 := (blk_cell hbox 1).trans rfl; have z2 := (blk_cell hbox 2).trans rfl; have z3 := (blk_cell hbox 3).trans rfl; have z4 := (blk_cell hbox 4).trans rfl; have z5 := (blk_cell hbox 5).trans rfl; clear hb hbox hg) | (go_at_call 15; refine (HCk.out _ Hgb.out).mono ?_; rintro e w5 ⟨rfl, hb5⟩; have H5 := Aside0.mk hb5; have B5 := Aside0.mk (blk_below Bgb.out hb5); clear hb5; clear z0 z1 z2 z3 z4 z5; have z0 := (blk_cell B5.out 0).trans rfl; have z1 := (blk_cell B5.out 1).trans rfl; have z2 := (blk_cell B5.out 2).trans rfl; have z3 := (blk_cell B5.out 3).trans rfl; have z4 := (blk_cell B5.out 4).trans rfl; have z5 := (blk_cell B5.out 5).trans rfl) | (go_at_call 37; refine (HN.out _ (below_step Hgb.out H5.out)).mono ?_; rintro e w6 ⟨rfl, hb6⟩; have H6 := Aside0.mk (below_step (below_step Hgb.out H5.out) hb6); have B6 := Aside0.mk (blk_below B5.out hb6); clear hb6; clear z0 z1 z2 z3 z4 z5; have z0 := (blk_cell B6.out 0).trans rfl; have z1 := (blk_cell B6.out 1).trans rfl; have z2 := (blk_cell B6.out 2).trans rfl; have z3 := (blk_cell B6.out 3).trans rfl; have z4 := (blk_cell B6.out 4).trans rfl; have z5 := (blk_cell B6.out 5).trans rfl) | (go_at_call 38; refine (H36.out _ _ H6.out B6.out).mono ?_; rintro e w7 ⟨rfl, hb7⟩; have H7 := Aside0.mk (below_step H6.out hb7); have B7 := Aside0.mk (blk_below B6.out hb7); clear hb7; clear z0 z1 z2 z3 z4 z5; have z0 := (blk_cell B7.out 0).trans rfl; have z1 := (blk_cell B7.out 1).trans rfl; have z2 := (blk_cell B7.out 2).trans rfl; have z3 := (blk_cell B7.out 3).trans rfl; have z4 := (blk_cell B7.out 4).trans rfl; have z5 := (blk_cell B7.out 5).trans rfl)))
            go_ret
            exact ⟨rfl, H7.out⟩
          | false =>
            replace H := Aside0.mk ((if_neg (by simp)).symm.trans H.out)
            (go_enter Try.func13, Try.ntmps13); (go_wp2_with (first | ((with_reducible refine gate_dst (N := 4) rfl ?_); refine box_event ?hg (N := 4) ?hd (cs := #[.int .i64 a0_0, .slice A0_1 l0_1.length c0_1, .int .i64 a0_2, .int .i64 a0_3, .slice A0_4 l0_4.length c0_4, .slice A0_5 l0_5.length c0_5]) (t := 26) ?hr ?_; (case hd => rfl); (case hg => rfl); (case hr => first | (go_simp; done) | (go_simp; rfl)); intro gb hg w4 hbox hb; have Bgb := Aside0.mk hbox; have Hgb := Aside0.mk hb; have Ggb := Aside0.mk hg; have z0 := (blk_cell hbox 0).trans rfl; have z1 := (blk_cell hbox 1).trans rfl; have z2 := (blk_cell hbox 2).trans rfl; have z3 := (blk_cell hbox 3).trans rfl; have z4 := (blk_cell hbox 4).trans rfl; have z5 := (blk_cell hbox 5).trans rfl; clear hb hbox hg) | (go_at_call 15; refine (HCk.out _ Hgb.out).mono ?_; rintro e w5 ⟨rfl, hb5⟩; have H5 := Aside0.mk hb5; have B5 := Aside0.mk (blk_below Bgb.out hb5); clear hb5; clear z0 z1 z2 z3 z4 z5; have z0 := (blk_cell B5.out 0).trans rfl; have z1 := (blk_cell B5.out 1).trans rfl; have z2 := (blk_cell B5.out 2).trans rfl; have z3 := (blk_cell B5.out 3).trans rfl; have z4 := (blk_cell B5.out 4).trans rfl; have z5 := (blk_cell B5.out 5).trans rfl) | (go_at_call 37; refine (HN.out _ (below_step Hgb.out H5.out)).mono ?_; rintro e w6 ⟨rfl, hb6⟩; have H6 := Aside0.mk (below_step (below_step Hgb.out H5.out) hb6); have B6 := Aside0.mk (blk_below B5.out hb6); clear hb6; clear z0 z1 z2 z3 z4 z5; have z0 := (blk_cell B6.out 0).trans rfl; have z1 := (blk_cell B6.out 1).trans rfl; have z2 := (blk_cell B6.out 2).trans rfl; have z3 := (blk_cell B6.out 3).trans rfl; have z4 := (blk_cell B6.out 4).trans rfl; have z5 := (blk_cell B6.out 5).trans rfl) | (go_at_call 38; refine (H36.out _ _ H6.out B6.out).mono ?_; rintro e w7 ⟨rfl, hb7⟩; have H7 := Aside0.mk (below_step H6.out hb7); have B7 := Aside0.mk (blk_below B6.out hb7); clear hb7; clear z0 z1 z2 z3 z4 z5; have z0 := (blk_cell B7.out 0).trans rfl; have z1 := (blk_cell B7.out 1).trans rfl; have z2 := (blk_cell B7.out 2).trans rfl; have z3 := (blk_cell B7.out 3).trans rfl; have z4 := (blk_cell B7.out 4).trans rfl; have z5 := (blk_cell B7.out 5).trans rfl) | (go_at_call 39; refine (HD.out H.out _ H7.out).mono ?_; rintro e w8 ⟨rfl, hb8⟩; have H8 := Aside0.mk (below_step H7.out hb8); clear hb8)))
            go_ret
            exact ⟨rfl, H8.out⟩
  · obtain rfl := Option.some.inj ((if_neg he).symm.trans H.out)
    have hed : (ec != 0) = true := bne_iff_ne.mpr he
    (go_enter Try.func13, Try.ntmps13); (go_wp2_with (first | ((with_reducible refine gate_dst (N := 4) rfl ?_); refine box_event ?hg (N := 4) ?hd (cs := #[.int .i64 a0_0, .slice A0_1 l0_1.length c0_1, .int .i64 a0_2, .int .i64 a0_3, .slice A0_4 l0_4.length c0_4, .slice A0_5 l0_5.length c0_5]) (t := 26) ?hr ?_; (case hd => rfl); (case hg => rfl); (case hr => first | (go_simp; done) | (go_simp; rfl)); intro gb hg w4 hbox hb; have Bgb := Aside0.mk hbox; have Hgb := Aside0.mk hb; have Ggb := Aside0.mk hg; have z0 := (blk_cell hbox 0).trans rfl; have z1 := (blk_cell hbox 1).trans rfl; have z2 := (blk_cell hbox 2).trans rfl; have z3 := (blk_cell hbox 3).trans rfl; have z4 := (blk_cell hbox 4).trans rfl; have z5 := (blk_cell hbox 5).trans rfl; clear hb hbox hg) | (go_at_call 15; refine (HCk.out _ Hgb.out).mono ?_; rintro e w5 ⟨rfl, hb5⟩; have H5 := Aside0.mk hb5; have B5 := Aside0.mk (blk_below Bgb.out hb5); clear hb5; clear z0 z1 z2 z3 z4 z5; have z0 := (blk_cell B5.out 0).trans rfl; have z1 := (blk_cell B5.out 1).trans rfl; have z2 := (blk_cell B5.out 2).trans rfl; have z3 := (blk_cell B5.out 3).trans rfl; have z4 := (blk_cell B5.out 4).trans rfl; have z5 := (blk_cell B5.out 5).trans rfl)))
    go_ret
    exact ⟨rfl, below_step Hgb.out H5.out⟩
end Go.Proofs.Ytibgcekekmphoaa.P34
