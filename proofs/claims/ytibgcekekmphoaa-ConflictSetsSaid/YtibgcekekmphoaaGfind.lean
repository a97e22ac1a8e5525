/- network.find: the place of a link in a network whose links ascend, or -1. -/
import Derived.Test.YtibgcekekmphoaaGbs
import Derived.Test.YtibgcekekmphoaaGlinkC
namespace Go.Proofs.Ytibgcekekmphoaa.P34
open Go.RowKit Go.Proofs.YtibgcekekmphoaaW.PrintWords Go.Proofs.YtibgcekekmphoaaW.PrintLast Go.Proofs.YtibgcekekmphoaaW.PrintMore
attribute [local go_sem] max2_int min2_int max_two min_two max_three min_three max_four min_four
set_option linter.unusedVariables false
set_option linter.unusedSimpArgs false

/-- Each link is less than all later ones. -/
def ascB (l : List S44) : Bool := (List.range l.length).all fun t => (List.range t).all fun s => linkLess (rd_T44 l (s : Int)) (rd_T44 l (t : Int))
theorem ascB_at {l : List S44} (h : ascB l = true) (s t : Nat) (hs : s < t) (ht : t < l.length) : linkLess (rd_T44 l (s : Int)) (rd_T44 l (t : Int)) = true := by
  unfold ascB at h
  rw [List.all_eq_true] at h
  have := h t (by simpa using ht)
  rw [List.all_eq_true] at this
  exact this s (by simpa using hs)
/-- The place of the link from F to T, or -1. -/
def findIx (l : List S44) (F T : Int) : Int := match (List.range l.length).find? (fun (t : Nat) => (rd_T44 l (t : Int)).f0 == F && (rd_T44 l (t : Int)).f1 == T) with | some i => (i : Int) | none => -1
def network_find.f (a0_0 : Int) (l0_1 : List (List Int)) (a0_2 : Int) (a0_3 : Int) (l0_4 : List (S44)) (l0_5 : List Int) (a1 a2 : Int) : Option Int := if ascB l0_4 = true then some (findIx l0_4 a1 a2) else none

theorem cmpL_neg (a b F T : Int) : cmpL a b F T < 0 ↔ a < F ∨ (a = F ∧ b < T) := by
  unfold cmpL or2 cmpI
  by_cases h1 : a < F
  · simp [h1]
  · by_cases h2 : F < a
    · simp [h1, h2]; omega
    · have e : a = F := by omega
      subst e
      simp
      by_cases h3 : b < T
      · simp [h3]
      · by_cases h4 : T < b <;> simp [h3, h4]
theorem cmpL_zero (a b F T : Int) : cmpL a b F T = 0 ↔ a = F ∧ b = T := by
  unfold cmpL or2 cmpI
  by_cases h1 : a < F
  · simp [h1]; omega
  · by_cases h2 : F < a
    · simp [h1, h2]; omega
    · have e : a = F := by omega
      subst e
      simp
      by_cases h3 : b < T
      · simp [h3]; omega
      · by_cases h4 : T < b
        · simp [h3, h4]; omega
        · simp [h3, h4]; omega
theorem linkLess_iff (a b : S44) : linkLess a b = true ↔ a.f0 < b.f0 ∨ (a.f0 = b.f0 ∧ a.f1 < b.f1) := by
  unfold linkLess
  simp

theorem find_eq (l : List S44) (F T : Int) (h : ascB l = true) (r : Nat) (hr : r = lb (fun t => cmpL (rd_T44 l (t : Int)).f0 (rd_T44 l (t : Int)).f1 F T) l.length) :
    findIx l F T = if (decide (r < l.length) && (cmpL (rd_T44 l (r : Int)).f0 (rd_T44 l (r : Int)).f1 F T == 0)) = true then (r : Int) else -1 := by
  have hlb : (∀ t, t < r → cmpL (rd_T44 l (t : Int)).f0 (rd_T44 l (t : Int)).f1 F T < 0) ∧ (r < l.length → 0 ≤ cmpL (rd_T44 l (r : Int)).f0 (rd_T44 l (r : Int)).f1 F T) ∧ r ≤ l.length := by
    rw [hr]
    unfold lb
    cases hf : (List.range l.length).find? (fun (t : Nat) => decide (0 ≤ cmpL (rd_T44 l (t : Int)).f0 (rd_T44 l (t : Int)).f1 F T)) with
    | some i =>
      rw [List.find?_range_eq_some] at hf
      obtain ⟨h1, h2, h3⟩ := hf
      refine ⟨fun t ht => ?_, fun _ => by simpa using h1, by have := List.mem_range.1 h2; simp; omega⟩
      have := h3 t ht
      simp at this
      omega
    | none =>
      rw [List.find?_eq_none] at hf
      refine ⟨fun t ht => ?_, fun hlt => absurd hlt (by simp), by simp⟩
      have := hf t (by simpa using ht)
      simp at this
      omega
  obtain ⟨h1, h2, h3⟩ := hlb
  clear hr
  unfold findIx
  by_cases hr0 : r < l.length ∧ cmpL (rd_T44 l (r : Int)).f0 (rd_T44 l (r : Int)).f1 F T = 0
  · rw [if_pos (by simp [hr0.1, hr0.2])]
    have he := (cmpL_zero _ _ _ _).1 hr0.2
    have : (List.range l.length).find? (fun (t : Nat) => (rd_T44 l (t : Int)).f0 == F && (rd_T44 l (t : Int)).f1 == T) = some r := by
      rw [List.find?_range_eq_some]
      refine ⟨by simp [he.1, he.2], by simpa using hr0.1, fun j hj => ?_⟩
      have := (cmpL_neg _ _ _ _).1 (h1 j hj)
      simp
      omega
    rw [this]
  · rw [if_neg (by simp; intro a b; exact hr0 ⟨a, b⟩)]
    have : (List.range l.length).find? (fun (t : Nat) => (rd_T44 l (t : Int)).f0 == F && (rd_T44 l (t : Int)).f1 == T) = none := by
      rw [List.find?_eq_none]
      intro x hx
      have hx := List.mem_range.1 hx
      simp
      intro e1 e2
      by_cases c1 : x < r
      · have := (cmpL_neg _ _ _ _).1 (h1 x c1)
        omega
      · by_cases c2 : x = r
        · subst c2
          exact hr0 ⟨hx, (cmpL_zero _ _ _ _).2 ⟨e1, e2⟩⟩
        · have hle := (linkLess_iff _ _).1 (ascB_at h r x (by omega) hx)
          have h5 := h2 (by omega)
          have h6 : ¬ cmpL (rd_T44 l (r : Int)).f0 (rd_T44 l (r : Int)).f1 F T < 0 := by omega
          rw [cmpL_neg] at h6
          omega
    rw [this]

set_option maxRecDepth 100000 in
set_option maxHeartbeats 1000000 in
theorem network_find.calls (a0_0 : Int) (A0_1 : Option Addr) (c0_1 : Nat) (l0_1 : List (List Int)) (a0_2 : Int) (a0_3 : Int) (A0_4 : Option Addr) (c0_4 : Nat) (l0_4 : List (S44)) (A0_5 : Option Addr) (c0_5 : Nat) (l0_5 : List Int) (a1 a2 : Int) (r : Int) (w : World) (hr0_1 : Kd.C (Kd.slice 3 (Kd.int .i64)) w A0_1 l0_1.length l0_1) (hc0_1 : l0_1.length ≤ c0_1) (hr0_4 : Kd.C k44 w A0_4 l0_4.length l0_4) (hc0_4 : l0_4.length ≤ c0_4) (hr0_5 : Kd.C (Kd.int .i64) w A0_5 l0_5.length l0_5) (hc0_5 : l0_5.length ≤ c0_5) (h : network_find.f a0_0 l0_1 a0_2 a0_3 l0_4 l0_5 a1 a2 = some r) :
    Calls Try.prog 45 #[.agg #[.int .i64 a0_0, .slice A0_1 l0_1.length c0_1, .int .i64 a0_2, .int .i64 a0_3, .slice A0_4 l0_4.length c0_4, .slice A0_5 l0_5.length c0_5], .int .i64 a1, .int .i64 a2] w fun e w' => e = .returned (.int .i64 r) ∧ Below w.heap.size w w' := by
  unfold network_find.f at h
  split at h
  · rename_i hasc
    obtain rfl := Option.some.inj h
    have hu26 := Try.underlying26
    have hu44 := Try.underlying44
    obtain ⟨i, hi⟩ : ∃ i : Nat, i = lb (fun t => cmpL (rd_T44 l0_4 (t : Int)).f0 (rd_T44 l0_4 (t : Int)).f1 a1 a2) l0_4.length := ⟨_, rfl⟩
    have hfe := find_eq l0_4 a1 a2 hasc i hi
    obtain ⟨q, hq⟩ : ∃ q : Bool, q = (decide (i < l0_4.length) && (cmpL (rd_T44 l0_4 (i : Int)).f0 (rd_T44 l0_4 (i : Int)).f1 a1 a2 == 0)) := ⟨_, rfl⟩
    rw [← hq] at hfe
    have HC := Aside0.mk (fun (W : World) (hb : Below w.heap.size w W) => bsearch71 A0_4 c0_4 l0_4 a1 a2 0 W (Kd.C_below hr0_4 hb) (fun s t hst ht hc => by
      by_cases e : s = t
      · subst e; exact hc
      · have h1 := (linkLess_iff _ _).1 (ascB_at hasc s t (by omega) ht)
        rw [cmpL_neg] at hc ⊢
        omega) i q hi hq)
    rw [hfe]
    clear hfe hi hq hasc h hr0_1 hr0_4 hr0_5 hc0_1 hc0_4 hc0_5
    cases q with
    | true =>
      go_enter Try.func45, Try.ntmps45
      go_wp2_with (first | ((with_reducible refine gate_dst (N := 3) rfl ?_); refine box_event ?hg (N := 3) ?hd (cs := #[.int .i64 a0_0, .slice A0_1 l0_1.length c0_1, .int .i64 a0_2, .int .i64 a0_3, .slice A0_4 l0_4.length c0_4, .slice A0_5 l0_5.length c0_5]) (t := 26) ?hr ?_; (case hd => rfl); (case hg => rfl); (case hr => first | (go_simp; done) | (go_simp; rfl)); intro gb hg w4 hbox hb; have Bgb := Aside0.mk hbox; have Hgb := Aside0.mk hb; have Ggb := Aside0.mk hg; have hzgb_0 := (blk_cell hbox 0).trans rfl; have hzgb_1 := (blk_cell hbox 1).trans rfl; have hzgb_2 := (blk_cell hbox 2).trans rfl; have hzgb_3 := (blk_cell hbox 3).trans rfl; have hzgb_4 := (blk_cell hbox 4).trans rfl; have hzgb_5 := (blk_cell hbox 5).trans rfl; clear hb hbox hg) | (go_at_call 71; refine (HC.out _ Hgb.out).mono ?_; rintro e w8 ⟨rfl, hb8⟩; have HB8 := Aside0.mk hb8; clear hb8))
      go_ret
      exact ⟨rfl, below_step Hgb.out HB8.out⟩
    | false =>
      go_enter Try.func45, Try.ntmps45
      go_wp2_with (first | ((with_reducible refine gate_dst (N := 3) rfl ?_); refine box_event ?hg (N := 3) ?hd (cs := #[.int .i64 a0_0, .slice A0_1 l0_1.length c0_1, .int .i64 a0_2, .int .i64 a0_3, .slice A0_4 l0_4.length c0_4, .slice A0_5 l0_5.length c0_5]) (t := 26) ?hr ?_; (case hd => rfl); (case hg => rfl); (case hr => first | (go_simp; done) | (go_simp; rfl)); intro gb hg w4 hbox hb; have Bgb := Aside0.mk hbox; have Hgb := Aside0.mk hb; have Ggb := Aside0.mk hg; have hzgb_0 := (blk_cell hbox 0).trans rfl; have hzgb_1 := (blk_cell hbox 1).trans rfl; have hzgb_2 := (blk_cell hbox 2).trans rfl; have hzgb_3 := (blk_cell hbox 3).trans rfl; have hzgb_4 := (blk_cell hbox 4).trans rfl; have hzgb_5 := (blk_cell hbox 5).trans rfl; clear hb hbox hg) | (go_at_call 71; refine (HC.out _ Hgb.out).mono ?_; rintro e w8 ⟨rfl, hb8⟩; have HB8 := Aside0.mk hb8; clear hb8))
      go_ret
      exact ⟨rfl, below_step Hgb.out HB8.out⟩
  · cases h
end Go.Proofs.Ytibgcekekmphoaa.P34
