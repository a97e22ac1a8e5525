/- slices.BinarySearchFunc over links by network.compare: the first place whose link is not less than the target. -/
import Derived.Test.YtibgcekekmphoaaGcmp
import Derived.StillTailTactics
import Derived.IntWalk
import Derived.Deep.RegionHeld3
namespace Go.Proofs.Ytibgcekekmphoaa.P34
open Go.RowKit Go.Proofs.YtibgcekekmphoaaW.PrintWords Go.Proofs.YtibgcekekmphoaaW.PrintLast Go.Proofs.YtibgcekekmphoaaW.PrintMore
attribute [local go_sem] max2_int min2_int max_two min_two max_three min_three max_four min_four
set_option linter.unusedVariables false
set_option linter.unusedSimpArgs false

/-- The first place below n at which c is not negative, or n. -/
def lb (c : Nat → Int) (n : Nat) : Nat := ((List.range n).find? fun t => decide (0 ≤ c t)).getD n
theorem lb_eq {c : Nat → Int} {n i : Nat} (hi : i ≤ n) (h1 : ∀ t, t < i → c t < 0) (h2 : i < n → 0 ≤ c i) : lb c n = i := by
  unfold lb
  by_cases h : i < n
  · have : (List.range n).find? (fun t => decide (0 ≤ c t)) = some i := by
      rw [List.find?_range_eq_some]
      exact ⟨by simpa using h2 h, by simpa using h, fun j hj => by have := h1 j hj; simp; omega⟩
    rw [this]
    rfl
  · have : (List.range n).find? (fun t => decide (0 ≤ c t)) = none := by
      rw [List.find?_eq_none]
      intro x hx
      have := h1 x (by have := List.mem_range.1 hx; omega)
      simp
      omega
    rw [this]
    show n = i
    omega

theorem half_val (i j : Nat) (hi : i ≤ 9223372036854775807) (hj : j ≤ 9223372036854775807) : wrap64 (IntKind.u64.wrap (wrap64 ((i : Int) + (j : Int))) / 2) = (((i + j) / 2 : Nat) : Int) := by
  simp only [wrap64, IntKind.wrap, IntKind.bits, IntKind.signed]
  simp
  omega

set_option maxRecDepth 100000 in
set_option maxHeartbeats 4000000 in
theorem bsearch71 (A : Option Addr) (c0 : Nat) (l : List S44) (F T G : Int) (w : World) (hr : Kd.C k44 w A l.length l)
    (hm : ∀ s t, s ≤ t → t < l.length → cmpL (rd_T44 l (t : Int)).f0 (rd_T44 l (t : Int)).f1 F T < 0 → cmpL (rd_T44 l (s : Int)).f0 (rd_T44 l (s : Int)).f1 F T < 0) (r : Nat) (q : Bool)
    (hr1 : r = lb (fun t => cmpL (rd_T44 l (t : Int)).f0 (rd_T44 l (t : Int)).f1 F T) l.length)
    (hr2 : q = (decide (r < l.length) && (cmpL (rd_T44 l (r : Int)).f0 (rd_T44 l (r : Int)).f1 F T == 0))) :
    Calls Try.prog 71 #[.slice A l.length c0, .agg #[.int .i64 F, .int .i64 T, .int .i64 G], .func (.func 70) #[] #[]] w fun e w' => e = .returned (.tuple #[.int .i64 (r : Int), .bool q]) ∧ Below w.heap.size w w' := by
  have hu44 := Try.underlying44
  have HR := Aside0.mk hr
  have hn := hr.2.1
  have HM := Aside0.mk hm
  have Hr1 := Aside0.mk hr1
  have Hr2 := Aside0.mk hr2
  clear hr hm hr1 hr2
  go_enter Try.func71, Try.ntmps71
  go_wp2_with ((with_reducible refine gate_dst (N := 4) rfl ?_); refine box_event ?hg (N := 4) ?hd (cs := #[.int .i64 F, .int .i64 T, .int .i64 G]) (t := 44) ?hr ?_; (case hd => rfl); (case hg => rfl); (case hr => first | (go_simp; done) | (go_simp; rfl)); intro gt hg w4 hbox hb; have Bgt := Aside0.mk hbox; have Hgt := Aside0.mk hb; have Ggt := Aside0.mk hg; have hzgt_0 := (blk_cell hbox 0).trans rfl; have hzgt_1 := (blk_cell hbox 1).trans rfl; have hzgt_2 := (blk_cell hbox 2).trans rfl; clear hb hbox hg)
  have hgt := Ggt.out
  go_loopg [9, 10, 11] l.length (fun gg v9 v10 _ wr => ∃ i j : Nat, v9 = .int .i64 i ∧ v10 = .int .i64 j ∧ Aside0 (i ≤ j ∧ j ≤ l.length ∧ j - i ≤ gg) ∧ Aside0 (Below w.heap.size w wr) ∧ Aside0 (wr.heap[gt]? = some (.cells #[.int .i64 F, .int .i64 T, .int .i64 G] 44 (0, 0))) ∧ Aside0 (∀ t, t < i → cmpL (rd_T44 l (t : Int)).f0 (rd_T44 l (t : Int)).f1 F T < 0) ∧ Aside0 (∀ t, j ≤ t → t < l.length → 0 ≤ cmpL (rd_T44 l (t : Int)).f0 (rd_T44 l (t : Int)).f1 F T))
  case atStart => exact ⟨0, l.length, rfl, rfl, ⟨Nat.zero_le _, Nat.le_refl _, by omega⟩, ⟨Hgt.out⟩, ⟨Bgt.out⟩, ⟨fun t ht => absurd ht (Nat.not_lt_zero _)⟩, ⟨fun t h1 h2 => absurd h2 (by omega)⟩⟩
  case round =>
    clear hgt hzgt_0 hzgt_1 hzgt_2
    obtain ⟨i, j, rfl, rfl, HI, HB, BG, H1, H2⟩ := hrel
    obtain ⟨hij, hjn, hgg⟩ := HI.out
    have t0 := (blk_cell BG.out 0).trans rfl
    have t1 := (blk_cell BG.out 1).trans rfl
    have t2 := (blk_cell BG.out 2).trans rfl
    by_cases hlt : i < j
    · have hltz : (i : Int) < (j : Int) := by omega
      go_wp2_with fail
      obtain ⟨h, hh⟩ : ∃ h : Nat, h = (i + j) / 2 := ⟨_, rfl⟩
      have hval := half_val i j (by omega) (by omega)
      rw [← hh] at hval
      rw [hval]
      have hih : i ≤ h := by omega
      have hhj : h < j := by omega
      have HH := Aside0.mk hh
      clear hh hval
      obtain ⟨ad, rfl, x0, x1, x2⟩ := at_T44 HR.out (h : Int) (by omega) (by omega)
      have hz0 : (0 : Int) ≤ (h : Int) := by omega
      have hz1 : (h : Int) < (l.length : Int) := by omega
      replace x0 := (HB.out.cell (World.block_lt_of_cell? w _ x0)).trans x0
      replace x1 := (HB.out.cell (World.block_lt_of_cell? w _ x1)).trans x1
      replace x2 := (HB.out.cell (World.block_lt_of_cell? w _ x2)).trans x2
      rw [Int.toNat_natCast] at x0 x1 x2
      have HCc := Aside0.mk (fun W => network_compare.calls 3 (rd_T44 l (h : Int)).f0 (rd_T44 l (h : Int)).f1 (rd_T44 l (h : Int)).f2 F T G _ W (network_compare_eq _ _ _ _ _ _))
      generalize hcv : cmpL (rd_T44 l (h : Int)).f0 (rd_T44 l (h : Int)).f1 F T = cv at HCc
      have Hcv := Aside0.mk hcv
      clear hcv
      generalize (rd_T44 l (h : Int)).f0 = X0 at x0 HCc
      generalize (rd_T44 l (h : Int)).f1 = X1 at x1 HCc
      generalize (rd_T44 l (h : Int)).f2 = X2 at x2 HCc
      go_still_tail 6, (by kernel_rfl)
      change wpList _ _ _ _ _ wr.drew
      have E1 := Aside0.mk (below_drew1 HB.out)
      have E2 := Aside0.mk (blk_drew BG.out)
      generalize wr.drew = w7 at E1 E2 ⊢
      clear t0 t1 t2 x0 x1 x2
      cases hneg : decide (cv < 0) with
      | true =>
        go_wp2_with (go_at_call 70; refine (HCc.out _).mono ?_; rintro e w8 ⟨rfl, hb8⟩; have HB8 := Aside0.mk hb8; clear hb8)
        go_roundg (j - (h + 1))
        case measure => omega
        case rel =>
          have hng : cv < 0 := of_decide_eq_true hneg
          exact ⟨h + 1, j, by go_num, rfl, ⟨by omega, hjn, by omega⟩, ⟨below_step E1.out HB8.out⟩, ⟨blk_below E2.out HB8.out⟩, ⟨fun t ht => HM.out t h (by omega) (by omega) (by rw [Hcv.out]; exact hng)⟩, H2⟩
      | false =>
        go_wp2_with (go_at_call 70; refine (HCc.out _).mono ?_; rintro e w8 ⟨rfl, hb8⟩; have HB8 := Aside0.mk hb8; clear hb8)
        go_roundg (h - i)
        case measure => omega
        case rel =>
          have hng : ¬ cv < 0 := of_decide_eq_false hneg
          refine ⟨i, h, rfl, rfl, ⟨by omega, by omega, by omega⟩, ⟨below_step E1.out HB8.out⟩, ⟨blk_below E2.out HB8.out⟩, H1, ⟨fun t h1 h2 => ?_⟩⟩
          have := HM.out h t h1 h2
          rw [Hcv.out] at this
          omega
    · have hltz : ¬ (i : Int) < (j : Int) := by omega
      have hji : i = j := by omega
      subst hji
      have hri : r = i := by
        rw [Hr1.out]
        refine lb_eq hjn H1.out (fun h => H2.out i (Nat.le_refl _) h)
      subst hri
      by_cases hin : r < l.length
      · have hinz : decide ((r : Int) < (l.length : Int)) = true := decide_eq_true (by omega)
        have hind : decide (r < l.length) = true := decide_eq_true hin
        obtain ⟨ad, rfl, x0, x1, x2⟩ := at_T44 HR.out (r : Int) (by omega) (by omega)
        have hz0 : (0 : Int) ≤ (r : Int) := by omega
        have hz1 : (r : Int) < (l.length : Int) := by omega
        replace x0 := (HB.out.cell (World.block_lt_of_cell? w _ x0)).trans x0
        replace x1 := (HB.out.cell (World.block_lt_of_cell? w _ x1)).trans x1
        replace x2 := (HB.out.cell (World.block_lt_of_cell? w _ x2)).trans x2
        rw [Int.toNat_natCast] at x0 x1 x2
        have HCc := Aside0.mk (fun W => network_compare.calls 3 (rd_T44 l (r : Int)).f0 (rd_T44 l (r : Int)).f1 (rd_T44 l (r : Int)).f2 F T G _ W (network_compare_eq _ _ _ _ _ _))
        have hq := Hr2.out
        rw [hind, Bool.true_and] at hq
        generalize cmpL (rd_T44 l (r : Int)).f0 (rd_T44 l (r : Int)).f1 F T = cv at HCc hq
        have Hq := Aside0.mk hq
        clear hq hind
        generalize (rd_T44 l (r : Int)).f0 = X0 at x0 HCc
        generalize (rd_T44 l (r : Int)).f1 = X1 at x1 HCc
        generalize (rd_T44 l (r : Int)).f2 = X2 at x2 HCc
        go_wp2_with fail
        go_region_held3 (fun w' => w'.cell? (ad.add (r * 3)) = some (.int .i64 X0) ∧ w'.cell? ⟨(ad.add (r * 3)).block, (ad.add (r * 3)).off + 1, none⟩ = some (.int .i64 X1) ∧ w'.cell? ⟨(ad.add (r * 3)).block, (ad.add (r * 3)).off + 2, none⟩ = some (.int .i64 X2) ∧ w'.cell? ⟨gt, 0, none⟩ = some (.int .i64 F) ∧ w'.cell? ⟨gt, 1, none⟩ = some (.int .i64 T) ∧ w'.cell? ⟨gt, 2, none⟩ = some (.int .i64 G))
          (first | go_keep | (go_split_ands; refine ⟨?_, ?_, ?_, ?_, ?_, ?_⟩ <;> exact (hb8.cell (World.block_lt_of_cell? _ _ (by assumption))).trans (by assumption)))
          ((go_at_call 70; refine (HCc.out _).mono ?_; rintro e w8 ⟨rfl, hb8⟩))
        have HB9 : Aside0 (Below w.heap.size w w8) := ⟨below_step (below_drew1 HB.out) hb8⟩
        clear hb8
        go_wp2
        go_ret2
        exact ⟨by rw [Hq.out]; rfl, HB9.out⟩
      · have hinz : decide ((r : Int) < (l.length : Int)) = false := decide_eq_false (by omega)
        have hq := Hr2.out
        rw [show decide (r < l.length) = false from decide_eq_false hin, Bool.false_and] at hq
        subst hq
        go_wp2_with fail
        go_quiet (fail)
        go_wp2
        go_ret2
        exact ⟨rfl, pw_below_drewN HB.out _⟩
end Go.Proofs.Ytibgcekekmphoaa.P34
