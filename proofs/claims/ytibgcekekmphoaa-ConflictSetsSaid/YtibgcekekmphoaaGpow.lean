/- network.checkPower: what it answers, for any network: the fault of the table of powers. -/
import Derived.Test.YtibgcekekmphoaaP340
import Derived.Test.YtibgcekekmphoaaGidx
import Derived.Laws.EntriesVeiled
namespace Go.Proofs.Ytibgcekekmphoaa.P34
open Go.RowKit Go.Proofs.YtibgcekekmphoaaW.PrintWords Go.Proofs.YtibgcekekmphoaaW.PrintLast Go.Proofs.YtibgcekekmphoaaW.PrintMore
attribute [local go_sem] max2_int min2_int max_two min_two max_three min_three max_four min_four
set_option linter.unusedVariables false
set_option linter.unusedSimpArgs false

def badLen (m : Int) (rows : List (List Int)) : Bool := (List.range rows.length).any fun j => ((rows.getD j []).length : Int) != m
def badRow (row : List Int) : Bool := (List.range row.length).any fun i => decide (row.getD i 0 < 0) || decide (68719476736 < row.getD i 0)
def badVal (rows : List (List Int)) : Bool := (List.range rows.length).any fun j => badRow (rows.getD j [])
def network_checkPower.f (a0_0 : Int) (l0_1 : List (List Int)) (a0_2 : Int) (a0_3 : Int) (l0_4 : List (S44)) (l0_5 : List Int) : Option Int := some (if (l0_1.length : Int) = a0_0 then (if badLen a0_0 l0_1 = true then 1 else if badVal l0_1 = true then 2 else 0) else 1)

theorem rows_val {w : World} {A : Option Addr} {rows : List (List Int)} (h : Kd.C (Kd.slice 3 (Kd.int .i64)) w A rows.length rows) :
    ∃ val : Nat → Value, (∀ j, j < rows.length → ∃ ad, A = some ad ∧ w.cell? (ad.add j) = some (val j)) ∧ ∀ j, j < rows.length → ∃ A0 c0, val j = .slice A0 (rows.getD j []).length c0 ∧ (rows.getD j []).length ≤ c0 ∧ Kd.C (Kd.int .i64) w A0 (rows.getD j []).length (rows.getD j []) := by
  have h0 : ∀ j, j < rows.length → ∃ ad A0 c0, A = some ad ∧ w.cell? (ad.add j) = some (.slice A0 (rows.getD j []).length c0) ∧ (rows.getD j []).length ≤ c0 ∧ Kd.C (Kd.int .i64) w A0 (rows.getD j []).length (rows.getD j []) := fun j hj => by
    obtain ⟨ad, A0, c0, e, hc, hl, hr⟩ := at_L1 h (j : Int) (by omega) (by omega)
    exact ⟨ad, A0, c0, e, hc, hl, hr⟩
  refine ⟨fun j => match A with | some ad => (w.cell? (ad.add j)).getD undef | none => undef, fun j hj => ?_, fun j hj => ?_⟩
  · obtain ⟨ad, A0, c0, rfl, hc, hl, hr⟩ := h0 j hj
    exact ⟨ad, rfl, by simp [hc]⟩
  · obtain ⟨ad, A0, c0, rfl, hc, hl, hr⟩ := h0 j hj
    exact ⟨A0, c0, by simp [hc], hl, hr⟩

theorem pred65 (B : Nat) (m : Int) (val : Nat → Value) (rows : List (List Int)) (w : World) (hB : w.cell? ⟨B, 0, none⟩ = some (.int .i64 m))
    (hv : ∀ j, j < rows.length → ∃ A0 c0, val j = .slice A0 (rows.getD j []).length c0) : Pred65 B val (fun j => ((rows.getD j []).length : Int) != m) rows.length w := fun W j hj hb => by
  obtain ⟨A0, c0, hv⟩ := hv j hj
  show Calls Try.prog 65 #[val j, _] W fun e w' => e = .returned (.bool (((rows.getD j []).length : Int) != m)) ∧ _
  rw [hv]
  have hc := (hb.cell (World.block_lt_of_cell? w _ hB)).trans hB
  have HB := Aside0.mk hb
  generalize (rows.getD j []).length = n
  clear hv hB hj hb
  go_enter Try.func65, Try.ntmps65
  go_wp2
  go_ret
  exact ⟨rfl, HB.out⟩

theorem pred66 (xs : List Int) (n : Nat) (w : World) : Pred66 (fun j => .int .i64 (xs.getD j 0)) (fun j => decide (xs.getD j 0 < 0) || decide (68719476736 < xs.getD j 0)) n w := fun W j hj hb => by
  show Calls Try.prog 66 #[.int .i64 (xs.getD j 0)] W fun e w' => e = .returned (.bool (decide (xs.getD j 0 < 0) || decide (68719476736 < xs.getD j 0))) ∧ _
  have HB := Aside0.mk hb
  generalize xs.getD j 0 = x
  clear hj hb
  by_cases h : x < 0
  · go_enter Try.func66, Try.ntmps66
    go_wp2
    go_ret
    exact ⟨by simp [h], HB.out⟩
  · have h' : decide (x < 0) = false := decide_eq_false h
    rw [h']
    go_enter Try.func66, Try.ntmps66
    go_wp2
    go_ret
    exact ⟨by simp, HB.out⟩

theorem pred67 (B : Nat) (val : Nat → Value) (rows : List (List Int)) (w : World) (hB : w.cell? ⟨B, 0, none⟩ = some (.func (.func 66) #[] #[]))
    (hv : ∀ j, j < rows.length → ∃ A0 c0, val j = .slice A0 (rows.getD j []).length c0 ∧ (rows.getD j []).length ≤ c0 ∧ Kd.C (Kd.int .i64) w A0 (rows.getD j []).length (rows.getD j [])) : Pred67 B val (fun j => badRow (rows.getD j [])) rows.length w := fun W j hj hb => by
  obtain ⟨A0, c0, hv, hl, hr⟩ := hv j hj
  show Calls Try.prog 67 #[val j, _] W fun e w' => e = .returned (.bool (badRow (rows.getD j []))) ∧ _
  rw [hv]
  have hc := (hb.cell (World.block_lt_of_cell? w _ hB)).trans hB
  have HB := Aside0.mk hb
  have hr' := Kd.C_below hr hb
  generalize rows.getD j [] = row at hr' hl ⊢
  have HC := Aside0.mk (con68_66 A0 row.length c0 (fun j => .int .i64 (row.getD j 0)) _ W hr'.2.1 (fun j hj => by
    obtain ⟨ad, e, hx⟩ := Kd.at_int hr' (j : Int) (by omega) (by omega)
    exact ⟨ad, e, hx⟩) (pred66 row row.length W))
  clear hv hB hj hb hr hr' hl
  change Aside0 (Calls _ _ _ _ fun e w' => e = .returned (.bool (badRow row)) ∧ _) at HC
  generalize badRow row = q at HC ⊢
  go_enter Try.func67, Try.ntmps67
  go_wp2_with (go_at_call 68; refine HC.out.mono ?_; rintro e w' ⟨rfl, hb'⟩)
  go_ret
  exact ⟨rfl, HB.out.trans (hb'.mono HB.out.size)⟩

set_option maxRecDepth 100000 in
set_option maxHeartbeats 1000000 in
theorem network_checkPower.calls (a0_0 : Int) (A0_1 : Option Addr) (c0_1 : Nat) (l0_1 : List (List Int)) (a0_2 : Int) (a0_3 : Int) (A0_4 : Option Addr) (c0_4 : Nat) (l0_4 : List (S44)) (A0_5 : Option Addr) (c0_5 : Nat) (l0_5 : List Int) (r : Int) (w : World) (hr0_1 : Kd.C (Kd.slice 3 (Kd.int .i64)) w A0_1 l0_1.length l0_1) (hc0_1 : l0_1.length ≤ c0_1) (hr0_4 : Kd.C k44 w A0_4 l0_4.length l0_4) (hc0_4 : l0_4.length ≤ c0_4) (hr0_5 : Kd.C (Kd.int .i64) w A0_5 l0_5.length l0_5) (hc0_5 : l0_5.length ≤ c0_5) (h : network_checkPower.f a0_0 l0_1 a0_2 a0_3 l0_4 l0_5 = some r) :
    Calls Try.prog 43 #[.agg #[.int .i64 a0_0, .slice A0_1 l0_1.length c0_1, .int .i64 a0_2, .int .i64 a0_3, .slice A0_4 l0_4.length c0_4, .slice A0_5 l0_5.length c0_5]] w fun e w' => e = .returned (.int .i64 r) ∧ Below w.heap.size w w' := by
  have hu26 := Try.underlying26
  obtain ⟨val, hv1, hv2⟩ := rows_val hr0_1
  have Hv1 := Aside0.mk hv1
  have Hv2 := Aside0.mk hv2
  have Hn := Aside0.mk hr0_1.2.1
  have HR := Aside0.mk hr0_1
  clear hr0_1 hr0_4 hr0_5 hc0_1 hc0_4 hc0_5 hv1 hv2
  obtain rfl := Option.some.inj h
  clear h
  by_cases h1 : (l0_1.length : Int) = a0_0
  · rw [if_pos h1]
    have h1b : ((l0_1.length : Int) != a0_0) = false := bne_eq_false_iff_eq.mpr h1
    clear h1
    have hbl : badLen a0_0 l0_1 = (List.range l0_1.length).any fun j => ((l0_1.getD j []).length : Int) != a0_0 := rfl
    have hbv : badVal l0_1 = (List.range l0_1.length).any fun j => badRow (l0_1.getD j []) := rfl
    generalize badLen a0_0 l0_1 = b1 at hbl ⊢
    generalize badVal l0_1 = b2 at hbv ⊢
    have Hbl := Aside0.mk hbl
    have Hbv := Aside0.mk hbv
    clear hbl hbv
    go_enter Try.func43, Try.ntmps43
    go_wp2_with ((with_reducible refine gate_dst (N := 1) rfl ?_); refine box_event ?hg (N := 1) ?hd (cs := #[.int .i64 a0_0, .slice A0_1 l0_1.length c0_1, .int .i64 a0_2, .int .i64 a0_3, .slice A0_4 l0_4.length c0_4, .slice A0_5 l0_5.length c0_5]) (t := 26) ?hr ?_; (case hd => rfl); (case hg => rfl); (case hr => first | (go_simp; done) | (go_simp; rfl)); intro gb hg w4 hbox hb; have Bgb := Aside0.mk hbox; have Hgb := Aside0.mk hb; have Ggb := Aside0.mk hg; have hzgb_0 := (blk_cell hbox 0).trans rfl; have hzgb_1 := (blk_cell hbox 1).trans rfl; have hzgb_2 := (blk_cell hbox 2).trans rfl; have hzgb_3 := (blk_cell hbox 3).trans rfl; have hzgb_4 := (blk_cell hbox 4).trans rfl; have hzgb_5 := (blk_cell hbox 5).trans rfl; clear hb hbox hg)
    refine (con64_65 gb A0_1 l0_1.length c0_1 val _ w4 Hn.out (fun j hj => ?_) (pred65 gb a0_0 val l0_1 w4 hzgb_0 (fun j hj => ?_))).mono ?_
    · obtain ⟨ad, e, hc⟩ := Hv1.out j hj
      exact ⟨ad, e, (Hgb.out.cell (World.block_lt_of_cell? w _ hc)).trans hc⟩
    · obtain ⟨A0, c0, hv, _⟩ := Hv2.out j hj
      exact ⟨A0, c0, hv⟩
    rintro e w5 ⟨rfl, hb5⟩
    rw [← Hbl.out]
    have H5 := Aside0.mk hb5
    replace hzgb_0 := (hb5.cell (World.block_lt_of_cell? w4 _ hzgb_0)).trans hzgb_0
    replace hzgb_1 := (hb5.cell (World.block_lt_of_cell? w4 _ hzgb_1)).trans hzgb_1
    clear hb5
    cases b1 with
    | true =>
      go_wp2
      go_ret
      exact ⟨rfl, below_step Hgb.out H5.out⟩
    | false =>
      have HB7 : Aside0 (Below w5.heap.size w5 (w5.alloc (.cells #[.func (.func 66) #[] #[]] 83 (0, 0)))) := ⟨below_alloc (Below.refl _ _) _⟩
      have hza := (HB7.out.cell (World.block_lt_of_cell? w5 _ hzgb_1)).trans hzgb_1
      go_wp2_with fail
      have HB6 : Aside0 (Below w.heap.size w (w5.alloc (.cells #[.func (.func 66) #[] #[]] 83 (0, 0)))) := ⟨below_alloc (below_step Hgb.out H5.out) _⟩
      refine (con64_67 w5.heap.size A0_1 l0_1.length c0_1 val _ (w5.alloc (.cells #[.func (.func 66) #[] #[]] 83 (0, 0))) Hn.out (fun j hj => ?_) (pred67 w5.heap.size val l0_1 (w5.alloc (.cells #[.func (.func 66) #[] #[]] 83 (0, 0))) ((blk_cell (blk_new w5 (.cells #[.func (.func 66) #[] #[]] 83 (0, 0))) 0).trans rfl) (fun j hj => ?_))).mono ?_
      · obtain ⟨ad, e, hc⟩ := Hv1.out j hj
        exact ⟨ad, e, (HB6.out.cell (World.block_lt_of_cell? w _ hc)).trans hc⟩
      · obtain ⟨A0, c0, hv, hl, hr⟩ := Hv2.out j hj
        exact ⟨A0, c0, hv, hl, Kd.C_below hr HB6.out⟩
      rintro e w8 ⟨rfl, hb8⟩
      rw [← Hbv.out]
      have H8 := Aside0.mk hb8
      clear hb8
      cases b2 with
      | true =>
        go_wp2
        go_ret
        exact ⟨rfl, below_step HB6.out H8.out⟩
      | false =>
        go_wp2
        go_ret
        exact ⟨rfl, below_step HB6.out H8.out⟩
  · rw [if_neg h1]
    have h1b : ((l0_1.length : Int) != a0_0) = true := bne_iff_ne.mpr h1
    clear h1
    go_enter Try.func43, Try.ntmps43
    go_wp2_with ((with_reducible refine gate_dst (N := 1) rfl ?_); refine box_event ?hg (N := 1) ?hd (cs := #[.int .i64 a0_0, .slice A0_1 l0_1.length c0_1, .int .i64 a0_2, .int .i64 a0_3, .slice A0_4 l0_4.length c0_4, .slice A0_5 l0_5.length c0_5]) (t := 26) ?hr ?_; (case hd => rfl); (case hg => rfl); (case hr => first | (go_simp; done) | (go_simp; rfl)); intro gb hg w4 hbox hb; have Bgb := Aside0.mk hbox; have Hgb := Aside0.mk hb; have Ggb := Aside0.mk hg; have hzgb_0 := (blk_cell hbox 0).trans rfl; have hzgb_1 := (blk_cell hbox 1).trans rfl; have hzgb_2 := (blk_cell hbox 2).trans rfl; have hzgb_3 := (blk_cell hbox 3).trans rfl; have hzgb_4 := (blk_cell hbox 4).trans rfl; have hzgb_5 := (blk_cell hbox 5).trans rfl; clear hb hbox hg)
    go_ret
    exact ⟨rfl, Hgb.out⟩
end Go.Proofs.Ytibgcekekmphoaa.P34
