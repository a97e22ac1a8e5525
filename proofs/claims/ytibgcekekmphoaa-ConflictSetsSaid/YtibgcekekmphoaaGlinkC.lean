/- network.checkLink: its contract, for any network whose table of powers is square. -/
import Derived.Test.YtibgcekekmphoaaGlink2
namespace Go.Proofs.Ytibgcekekmphoaa.P34
open Go.RowKit Go.Proofs.YtibgcekekmphoaaW.PrintWords Go.Proofs.YtibgcekekmphoaaW.PrintLast Go.Proofs.YtibgcekekmphoaaW.PrintMore
attribute [local go_sem] max2_int min2_int max_two min_two max_three min_three max_four min_four
set_option linter.unusedVariables false
set_option linter.unusedSimpArgs false

theorem linkLess_cmp (a b : S44) : linkLess a b = false ↔ 0 ≤ cmpL a.f0 a.f1 b.f0 b.f1 := by
  unfold linkLess cmpL or2 cmpI
  simp only [Bool.or_eq_false_iff, Bool.and_eq_false_iff, decide_eq_false_iff_not, beq_eq_false_iff_ne]
  constructor
  · rintro ⟨h1, h2⟩
    by_cases e : a.f0 = b.f0
    · have h3 : ¬ a.f1 < b.f1 := h2.resolve_left (fun h => h e)
      simp [e]
      split
      · omega
      · split <;> omega
    · have : b.f0 < a.f0 := by omega
      simp [show ¬ a.f0 < b.f0 from h1, this]
  · intro h
    by_cases h1 : a.f0 < b.f0
    · simp [h1] at h
    · refine ⟨h1, ?_⟩
      by_cases e : a.f0 = b.f0
      · right
        intro h3
        simp [e, h3] at h
      · exact .inl e

theorem badLen_at {m : Int} {rows : List (List Int)} (h : badLen m rows = false) (i : Int) (h0 : 0 ≤ i) (h1 : i < (rows.length : Int)) : ((rd_L1 rows i).length : Int) = m := by
  unfold badLen at h
  rw [List.any_eq_false] at h
  have := h i.toNat (by simp; omega)
  simpa [rd_L1] using this

theorem network_checkLink.calls (a0_0 : Int) (A0_1 : Option Addr) (c0_1 : Nat) (l0_1 : List (List Int)) (a0_2 : Int) (a0_3 : Int) (A0_4 : Option Addr) (c0_4 : Nat) (l0_4 : List (S44)) (A0_5 : Option Addr) (c0_5 : Nat) (l0_5 : List Int) (a1 : Int) (r : Int) (w : World) (hr0_1 : Kd.C (Kd.slice 3 (Kd.int .i64)) w A0_1 l0_1.length l0_1) (hc0_1 : l0_1.length ≤ c0_1) (hr0_4 : Kd.C k44 w A0_4 l0_4.length l0_4) (hc0_4 : l0_4.length ≤ c0_4) (hr0_5 : Kd.C (Kd.int .i64) w A0_5 l0_5.length l0_5) (hc0_5 : l0_5.length ≤ c0_5) (h : network_checkLink.f a0_0 l0_1 a0_2 a0_3 l0_4 l0_5 a1 = some r) :
    Calls Try.prog 44 #[.agg #[.int .i64 a0_0, .slice A0_1 l0_1.length c0_1, .int .i64 a0_2, .int .i64 a0_3, .slice A0_4 l0_4.length c0_4, .slice A0_5 l0_5.length c0_5], .int .i64 a1] w fun e w' => e = .returned (.int .i64 r) ∧ Below w.heap.size w w' := by
  unfold network_checkLink.f at h
  split at h
  · rename_i hc
    obtain ⟨h0, h1, h5, h6, h7⟩ := hc
    obtain rfl := Option.some.inj h
    cases hb : linkBad a0_0 (rd_T44 l0_4 a1).f0 (rd_T44 l0_4 a1).f1 (rd_T44 l0_4 a1).f2 with
    | true =>
      rw [if_pos rfl]
      exact link_head a0_0 A0_1 c0_1 l0_1 a0_2 a0_3 A0_4 c0_4 l0_4 A0_5 c0_5 l0_5 a1 0 w hr0_1 hc0_1 hr0_4 hc0_4 hr0_5 hc0_5 h0 h1 hb
    | false =>
      rw [if_neg (by simp)]
      have hb' := hb
      unfold linkBad at hb'
      simp only [Bool.or_eq_false_iff, Bool.not_eq_false', Bool.and_eq_true, decide_eq_true_eq] at hb'
      obtain ⟨⟨⟨⟨⟨hF0, hF1⟩, ⟨hT0, hT1⟩⟩, _⟩, _⟩, _⟩ := hb'
      obtain ⟨ad, rfl, x0, x1, x2⟩ := at_T44 hr0_4 a1 h0 h1
      obtain ⟨adp, Ar, cr, rfl, xr, hlr, hrow⟩ := at_L1 hr0_1 (rd_T44 l0_4 a1).f0 hF0 (by omega)
      have hlen := badLen_at h7 (rd_T44 l0_4 a1).f0 hF0 (by omega)
      obtain ⟨adr, rfl, xp⟩ := Kd.at_int hrow (rd_T44 l0_4 a1).f1 hT0 (by omega)
      obtain ⟨adm, rfl, xm⟩ := Kd.at_int hr0_5 a1 h0 (by omega)
      refine link_tail a0_0 a0_2 a0_3 adp ad adm adr c0_1 c0_4 c0_5 _ cr l0_1 l0_4 l0_5 a1 _ _ _ _ _ (rd_T44 l0_4 (a1 - 1)).f0 (rd_T44 l0_4 (a1 - 1)).f1 (rd_T44 l0_4 (a1 - 1)).f2 _ w h0 h1 hr0_4.2.1 hr0_5.2.1 hr0_1.2.1 hrow.2.1 (by omega) hF0 (by omega) hT0 (by omega) ⟨x0⟩ ⟨x1⟩ ⟨x2⟩ ⟨fun hp => ?_⟩ ⟨xm⟩ ⟨xr⟩ ⟨xp⟩ hb ?_
      · obtain ⟨ad', e, z0, z1, z2⟩ := at_T44 hr0_4 (a1 - 1) (by omega) (by omega)
        cases e
        exact ⟨z0, z1, z2⟩
      · simp only [linkLess_cmp]
  · cases h
end Go.Proofs.Ytibgcekekmphoaa.P34
