/- network.checkLink at a link without a fault of its own: the order of the links, and the margin. -/
import Derived.Test.YtibgcekekmphoaaGlink
import Derived.Test.YtibgcekekmphoaaGcmp
import Derived.StillTailTactics
import Derived.IntWalk
namespace Go.Proofs.Ytibgcekekmphoaa.P34
open Go.RowKit Go.Proofs.YtibgcekekmphoaaW.PrintWords Go.Proofs.YtibgcekekmphoaaW.PrintLast Go.Proofs.YtibgcekekmphoaaW.PrintMore
attribute [local go_sem] max2_int min2_int max_two min_two max_three min_three max_four min_four
set_option linter.unusedVariables false
set_option linter.unusedSimpArgs false

set_option maxRecDepth 100000 in
set_option maxHeartbeats 4000000 in
theorem link_tail (a0_0 a0_2 a0_3 : Int) (adp ad adm adr : Addr) (c0_1 c0_4 c0_5 nr cr : Nat) (l0_1 : List (List Int)) (l0_4 : List S44) (l0_5 : List Int) (a1 F T L M PW F' T' L' r : Int) (w : World)
    (h0 : 0 ≤ a1) (h1 : a1 < (l0_4.length : Int)) (hn4 : l0_4.length ≤ 9223372036854775807) (hn5 : l0_5.length ≤ 9223372036854775807) (hn1 : l0_1.length ≤ 9223372036854775807) (hnr : nr ≤ 9223372036854775807) (h5 : a1 < (l0_5.length : Int))
    (hF0 : 0 ≤ F) (hF1 : F < (l0_1.length : Int)) (hT0 : 0 ≤ T) (hT1 : T < (nr : Int))
    (X0 : Aside0 (w.cell? (ad.add (a1.toNat * 3)) = some (.int .i64 F))) (X1 : Aside0 (w.cell? ⟨(ad.add (a1.toNat * 3)).block, (ad.add (a1.toNat * 3)).off + 1, none⟩ = some (.int .i64 T))) (X2 : Aside0 (w.cell? ⟨(ad.add (a1.toNat * 3)).block, (ad.add (a1.toNat * 3)).off + 2, none⟩ = some (.int .i64 L)))
    (Z : Aside0 (0 < a1 → w.cell? (ad.add ((a1 - 1).toNat * 3)) = some (.int .i64 F') ∧ w.cell? ⟨(ad.add ((a1 - 1).toNat * 3)).block, (ad.add ((a1 - 1).toNat * 3)).off + 1, none⟩ = some (.int .i64 T') ∧ w.cell? ⟨(ad.add ((a1 - 1).toNat * 3)).block, (ad.add ((a1 - 1).toNat * 3)).off + 2, none⟩ = some (.int .i64 L')))
    (XM : Aside0 (w.cell? (adm.add a1.toNat) = some (.int .i64 M))) (XR : Aside0 (w.cell? (adp.add F.toNat) = some (.slice (some adr) nr cr))) (XP : Aside0 (w.cell? (adr.add T.toNat) = some (.int .i64 PW)))
    (hbad : linkBad a0_0 F T L = false)
    (hr : r = if 0 < a1 ∧ 0 ≤ cmpL F' T' F T then 5 else if M < 0 ∨ PW < M then 2 else 0) :
    Calls Try.prog 44 #[.agg #[.int .i64 a0_0, .slice (some adp) l0_1.length c0_1, .int .i64 a0_2, .int .i64 a0_3, .slice (some ad) l0_4.length c0_4, .slice (some adm) l0_5.length c0_5], .int .i64 a1] w fun e w' => e = .returned (.int .i64 r) ∧ Below w.heap.size w w' := by
  have hu26 := Try.underlying26
  have hu44 := Try.underlying44
  have hm0 : 0 ≤ a1 - 1 ∨ a1 = 0 := by omega
  have HF := Aside0.mk (fun B W => call69 B F a0_0 W)
  have HT := Aside0.mk (fun B W => call69 B T a0_0 W)
  have HBad := Aside0.mk hbad
  unfold linkBad at HBad
  clear hbad hm0
  have Hr := Aside0.mk hr
  clear hr
  generalize (decide (0 ≤ F) && decide (F < a0_0)) = n1 at HF HBad
  generalize (decide (0 ≤ T) && decide (T < a0_0)) = n2 at HT HBad
  have HB1 : n1 = true ∧ n2 = true ∧ (F == T) = false ∧ decide (L < 0) = false ∧ decide (7 < L) = false := by
    have := HBad.out
    simp only [Bool.or_eq_false_iff, Bool.not_eq_false'] at this
    obtain ⟨⟨⟨⟨a, b⟩, c⟩, d⟩, e⟩ := this
    exact ⟨a, b, c, d, e⟩
  obtain ⟨rfl, rfl, hft, hl0, hl7⟩ := HB1
  clear HBad
  go_enter Try.func44, Try.ntmps44
  go_wp2_with (first | ((with_reducible refine gate_dst (N := 2) rfl ?_); refine box_event ?hg (N := 2) ?hd (cs := #[.int .i64 a0_0, .slice (some adp) l0_1.length c0_1, .int .i64 a0_2, .int .i64 a0_3, .slice (some ad) l0_4.length c0_4, .slice (some adm) l0_5.length c0_5]) (t := 26) ?hr ?_; (case hd => rfl); (case hg => rfl); (case hr => first | (go_simp; done) | (go_simp; rfl)); intro gb hg w4 hbox hb; have Bgb := Aside0.mk hbox; have Hgb := Aside0.mk hb; have Ggb := Aside0.mk hg; have hzgb_0 := (blk_cell hbox 0).trans rfl; have hzgb_1 := (blk_cell hbox 1).trans rfl; have hzgb_2 := (blk_cell hbox 2).trans rfl; have hzgb_3 := (blk_cell hbox 3).trans rfl; have hzgb_4 := (blk_cell hbox 4).trans rfl; have hzgb_5 := (blk_cell hbox 5).trans rfl; clear hb hbox hg; have y0 := (Hgb.out.cell (World.block_lt_of_cell? w _ X0.out)).trans X0.out; have y1 := (Hgb.out.cell (World.block_lt_of_cell? w _ X1.out)).trans X1.out; have y2 := (Hgb.out.cell (World.block_lt_of_cell? w _ X2.out)).trans X2.out) | ((with_reducible refine gate_dst (N := 5) rfl ?_); refine box_event ?hg (N := 5) ?hd (cs := #[.int .i64 0, .int .i64 0, .int .i64 0]) (t := 44) ?hr ?_; (case hd => rfl); (case hg => rfl); (case hr => first | (go_simp; done) | (go_simp; rfl)); intro gl hg w5 hbox hb; have Bgl := Aside0.mk hbox; have Hgl := Aside0.mk hb; have Ggl := Aside0.mk hg; have hzgl_0 := (blk_cell hbox 0).trans rfl; have hzgl_1 := (blk_cell hbox 1).trans rfl; have hzgl_2 := (blk_cell hbox 2).trans rfl; clear hb hbox hg; have hf0 := blk_frozen Bgl.out 0; have hf1 := blk_frozen Bgl.out 1; have hf2 := blk_frozen Bgl.out 2; have Kgl : Aside0 (gb ≠ gl) := ⟨by have := blk_lt Bgb.out; have := Ggl.out; omega⟩))
  have C1 : Aside0 ((((w5.setCell ⟨gl, 0, none⟩ (.int .i64 F)).setCell ⟨gl, 1, none⟩ (.int .i64 T)).setCell ⟨gl, 2, none⟩ (.int .i64 L)).heap[gl]? = some (.cells #[.int .i64 F, .int .i64 T, .int .i64 L] 44 (0, 0))) := ⟨blk_set (blk_set (blk_set Bgl.out 0 _) 1 _) 2 _⟩
  have hgl : w.heap.size ≤ gl := by rw [Ggl.out]; exact Hgb.out.size
  have C2 : Aside0 (Below w.heap.size w (((w5.setCell ⟨gl, 0, none⟩ (.int .i64 F)).setCell ⟨gl, 1, none⟩ (.int .i64 T)).setCell ⟨gl, 2, none⟩ (.int .i64 L))) := ⟨below_set (below_set (below_set (below_step Hgb.out Hgl.out) hgl) hgl) hgl⟩
  clear hgl
  have C3 : Aside0 ((((w5.setCell ⟨gl, 0, none⟩ (.int .i64 F)).setCell ⟨gl, 1, none⟩ (.int .i64 T)).setCell ⟨gl, 2, none⟩ (.int .i64 L)).heap[gb]? = some (.cells #[.int .i64 a0_0, .slice (some adp) l0_1.length c0_1, .int .i64 a0_2, .int .i64 a0_3, .slice (some ad) l0_4.length c0_4, .slice (some adm) l0_5.length c0_5] 26 (0, 0))) := ⟨blk_far (blk_far (blk_far (blk_below Bgb.out Hgl.out) Kgl.out _) Kgl.out _) Kgl.out _⟩
  generalize (((w5.setCell ⟨gl, 0, none⟩ (.int .i64 F)).setCell ⟨gl, 1, none⟩ (.int .i64 T)).setCell ⟨gl, 2, none⟩ (.int .i64 L)) = w6 at C1 C2 C3 ⊢
  clear hzgb_0 hzgb_1 hzgb_2 hzgb_3 hzgb_4 hzgb_5 hzgl_0 hzgl_1 hzgl_2 y0 y1 y2 hf0 hf1 hf2
  have u0 := (blk_cell C3.out 0).trans rfl
  have v0 := (blk_cell C1.out 0).trans rfl
  have v1 := (blk_cell C1.out 1).trans rfl
  have v2 := (blk_cell C1.out 2).trans rfl
  refine (HF.out gb _ u0).mono ?_
  rintro e w7 ⟨rfl, rfl⟩
  go_wp2_with fail
  refine (HT.out gb _ u0).mono ?_
  rintro e w7 ⟨rfl, rfl⟩
  clear HF HT
  have u1 := (blk_cell C3.out 1).trans rfl
  have u4 := (blk_cell C3.out 4).trans rfl
  have u5 := (blk_cell C3.out 5).trans rfl
  by_cases hp : 0 < a1
  · obtain ⟨z0, z1, z2⟩ := Z.out hp
    rw [show (a1 - 1).toNat = a1.toNat - 1 from by omega] at z0 z1 z2
    have hq2 : 1 ≤ a1 := by omega
    have t0 := (C2.out.cell (World.block_lt_of_cell? w _ z0)).trans z0
    have t1 := (C2.out.cell (World.block_lt_of_cell? w _ z1)).trans z1
    have t2 := (C2.out.cell (World.block_lt_of_cell? w _ z2)).trans z2
    have HCc := Aside0.mk (fun W => network_compare.calls 3 F' T' L' F T L _ W (network_compare_eq F' T' L' F T L))
    clear z0 z1 z2 Z
    have hpd : decide (0 < a1) = true := decide_eq_true hp
    generalize cmpL F' T' F T = cv at HCc Hr
    have hw1 : IntKind.i64.wrap (a1 - 1) = a1 - 1 := IntWalk.i64_in _ (by omega)
    have hq0 : 0 ≤ a1 - 1 := by omega
    have hq1 : a1 - 1 < (l0_4.length : Int) := by omega
    cases hcv : decide (0 ≤ cv) with
    | true =>
      go_wp2_with fail
      go_still_tail 10, (by kernel_rfl)
      change wpList _ _ _ _ _ w6.drew
      have E1 := Aside0.mk (blk_drew C1.out)
      have E2 := Aside0.mk (below_drew1 C2.out)
      have E3 := Aside0.mk (blk_drew C3.out)
      generalize w6.drew = w7 at E1 E2 E3 ⊢
      clear u0 u1 u4 u5 v0 v1 v2 t0 t1 t2
      go_wp2_with (go_at_call 70; refine (HCc.out _).mono ?_; rintro e w8 ⟨rfl, hb8⟩; have HB8 := Aside0.mk hb8; clear hb8)
      go_ret
      exact ⟨by rw [Hr.out, if_pos ⟨hp, of_decide_eq_true hcv⟩]; rfl, below_step E2.out HB8.out⟩
    | false =>
      go_wp2_with fail
      go_still_tail 10, (by kernel_rfl)
      change wpList _ _ _ _ _ w6.drew
      have E1 := Aside0.mk (blk_drew C1.out)
      have E2 := Aside0.mk (below_drew1 C2.out)
      have E3 := Aside0.mk (blk_drew C3.out)
      generalize w6.drew = w7 at E1 E2 E3 ⊢
      clear u0 u1 u4 u5 v0 v1 v2 t0 t1 t2
      have Hr2 : Aside0 (r = if M < 0 ∨ PW < M then 2 else 0) := ⟨by rw [Hr.out, if_neg (fun h => (of_decide_eq_false hcv) h.2)]⟩
      clear Hr
      go_wp2_with (go_at_call 70; refine (HCc.out _).mono ?_; rintro e w8 ⟨rfl, hb8⟩; have HB8 := Aside0.mk hb8; clear hb8)
      have D1 := Aside0.mk (blk_below E1.out HB8.out)
      have D2 := Aside0.mk (below_step E2.out HB8.out)
      have D3 := Aside0.mk (blk_below E3.out HB8.out)
      have ym := (D2.out.cell (World.block_lt_of_cell? w _ XM.out)).trans XM.out
      have yr := (D2.out.cell (World.block_lt_of_cell? w _ XR.out)).trans XR.out
      have yp := (D2.out.cell (World.block_lt_of_cell? w _ XP.out)).trans XP.out
      have u1 := (blk_cell D3.out 1).trans rfl
      have u5 := (blk_cell D3.out 5).trans rfl
      have v0 := (blk_cell D1.out 0).trans rfl
      have v1 := (blk_cell D1.out 1).trans rfl
      cases hM : decide (M < 0) with
      | true =>
        go_wp2_with fail
        go_quiet (fail)
        go_wp2
        go_ret
        have hM' : M < 0 := of_decide_eq_true hM
        exact ⟨by rw [Hr2.out, if_pos (Or.inl hM')]; rfl, pw_below_drewN D2.out _⟩
      | false =>
        cases hP : decide (PW < M) with
        | true =>
          go_wp2_with fail
          go_quiet (fail)
          go_wp2
          go_ret
          have hP' : PW < M := of_decide_eq_true hP
          exact ⟨by rw [Hr2.out, if_pos (Or.inr hP')]; rfl, pw_below_drewN D2.out _⟩
        | false =>
          go_wp2_with fail
          go_quiet (fail)
          go_wp2
          go_ret
          have hM' : ¬ M < 0 := of_decide_eq_false hM
          have hP' : ¬ PW < M := of_decide_eq_false hP
          exact ⟨by rw [Hr2.out, if_neg (by omega)]; rfl, pw_below_drewN D2.out _⟩
  · have hpd : decide (0 < a1) = false := decide_eq_false hp
    have Hr2 : Aside0 (r = if M < 0 ∨ PW < M then 2 else 0) := ⟨by rw [Hr.out, if_neg (fun h => hp h.1)]⟩
    clear Hr
    go_wp2_with fail
    go_quiet (fail)
    have D1 := Aside0.mk (blk_drewN C1.out nq)
    have D2 := Aside0.mk (pw_below_drewN C2.out nq)
    have D3 := Aside0.mk (blk_drewN C3.out nq)
    generalize w6.drewN nq = w9 at D1 D2 D3 ⊢
    clear u0 u1 u4 u5 v0 v1 v2
    have ym := (D2.out.cell (World.block_lt_of_cell? w _ XM.out)).trans XM.out
    have yr := (D2.out.cell (World.block_lt_of_cell? w _ XR.out)).trans XR.out
    have yp := (D2.out.cell (World.block_lt_of_cell? w _ XP.out)).trans XP.out
    have u1 := (blk_cell D3.out 1).trans rfl
    have u5 := (blk_cell D3.out 5).trans rfl
    have v0 := (blk_cell D1.out 0).trans rfl
    have v1 := (blk_cell D1.out 1).trans rfl
    cases hM : decide (M < 0) with
    | true =>
      go_wp2_with fail
      go_quiet (fail)
      go_wp2
      go_ret
      have hM' : M < 0 := of_decide_eq_true hM
      exact ⟨by rw [Hr2.out, if_pos (Or.inl hM')]; rfl, pw_below_drewN D2.out _⟩
    | false =>
      cases hP : decide (PW < M) with
      | true =>
        go_wp2_with fail
        go_quiet (fail)
        go_wp2
        go_ret
        have hP' : PW < M := of_decide_eq_true hP
        exact ⟨by rw [Hr2.out, if_pos (Or.inr hP')]; rfl, pw_below_drewN D2.out _⟩
      | false =>
        go_wp2_with fail
        go_quiet (fail)
        go_wp2
        go_ret
        have hM' : ¬ M < 0 := of_decide_eq_false hM
        have hP' : ¬ PW < M := of_decide_eq_false hP
        exact ⟨by rw [Hr2.out, if_neg (by omega)]; rfl, pw_below_drewN D2.out _⟩
end Go.Proofs.Ytibgcekekmphoaa.P34
