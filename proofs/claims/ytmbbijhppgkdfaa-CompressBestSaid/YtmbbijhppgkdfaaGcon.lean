/- compress.Contexts: whether contexts are right. -/
import Derived.Test.YtmbbijhppgkdfaaP14I
namespace Go.Proofs.Ytmbbijhppgkdfaa.P14
open Go.RowKit Go.Proofs.YtmbbijhppgkdfaaW.PrintWords Go.Proofs.YtmbbijhppgkdfaaW.PrintLast Go.Proofs.YtmbbijhppgkdfaaW.PrintMore
attribute [local go_sem] max2_int min2_int max_two min_two max_three min_three max_four min_four
set_option linter.unusedVariables false
set_option linter.unusedSimpArgs false
/-- The first place below n, or -1. -/
def idx (p : Nat → Bool) (n : Nat) : Int := match (List.range n).find? p with | some j => (j : Int) | none => -1
theorem idx_hit {p : Nat → Bool} {n k : Nat} (hk : k < n) (hp : p k = true) (h : ∀ j, j < k → p j = false) : idx p n = (k : Int) := by
  unfold idx
  have : (List.range n).find? p = some k := by
    rw [List.find?_range_eq_some]
    exact ⟨hp, by simpa using hk, fun j hj => by simpa using h j hj⟩
  rw [this]
theorem idx_miss {p : Nat → Bool} {n : Nat} (h : ∀ j, j < n → p j = false) : idx p n = -1 := by
  unfold idx
  have : (List.range n).find? p = none := by
    rw [List.find?_eq_none]
    intro x hx
    simp [h x (by simpa using hx)]
  rw [this]
theorem idx_any (p : Nat → Bool) (n : Nat) : decide (idx p n ≥ 0) = (List.range n).any p := by
  unfold idx
  cases h : (List.range n).find? p with
  | some j =>
    have := List.find?_some h
    have hm := List.mem_of_find?_eq_some h
    have : (List.range n).any p = true := List.any_eq_true.2 ⟨j, hm, this⟩
    rw [this]
    simp
  | none =>
    have h' : (List.range n).any p = false := by
      rw [List.any_eq_false]
      intro x hx
      have := List.find?_eq_none.1 h x hx
      simpa using this
    rw [h']
    rfl


/-- What is asked of function 43: called at element j it answers p j, and what lay lies. -/
def Pred43 (sj : Nat → ByteArray) (p : Nat → Bool) (n : Nat) (w : World) : Prop :=
  ∀ (W : World) (j : Nat), j < n → Below w.heap.size w W → Calls Try.prog 43 #[.agg #[.string (sj j)]] W fun e w' => e = .returned (.bool (p j)) ∧ Below w.heap.size w w'

set_option maxHeartbeats 1000000 in
theorem idx57_43 (A : Option Addr) (n c : Nat) (sj : Nat → ByteArray) (p : Nat → Bool) (w : World) (hbig : n ≤ 9223372036854775807)
    (hc : ∀ j, j < n → ∃ ad, A = some ad ∧ w.cell? (ad.add j) = some (.string (sj j))) (hp : Pred43 sj p n w) :
    Calls Try.prog 57 #[.slice A n c, .func (.func 43) #[] #[]] w fun e w' => e = .returned (.int .i64 (idx p n)) ∧ Below w.heap.size w w' := by
  have Hp := Aside0.mk hp
  have Hc := Aside0.mk hc
  clear hp hc
  go_enter Try.func57, Try.ntmps57
  go_wp2
  go_loopg [5, 8] n (fun gg _ s8 wr => ∃ kk : Nat, kk ≤ n ∧ n - kk ≤ gg ∧ s8 = .int .i64 kk ∧ Aside0 (Below w.heap.size w wr) ∧ Aside0 (∀ j, j < kk → p j = false))
  case atStart => exact ⟨0, Nat.zero_le _, by omega, rfl, ⟨Below.refl _ w⟩, ⟨fun j hj => absurd hj (Nat.not_lt_zero _)⟩⟩
  case round =>
    obtain ⟨kk, hkk, hg, rfl, BW, A0⟩ := hrel
    by_cases hlt : kk < n
    · have hltz : (kk : Int) < (n : Int) := by omega
      obtain ⟨ad, rfl, hcell0⟩ := Hc.out kk hlt
      have hcell := (BW.out.cell (World.block_lt_of_cell? w _ hcell0)).trans hcell0
      clear hcell0
      have hcall := Hp.out wr kk hlt BW.out
      generalize sj kk = vk at hcell hcall
      cases hq : p kk with
      | true =>
        rw [hq] at hcall
        have Hq := Aside0.mk hq
        have HC := Aside0.mk hcall
        clear hq hcall
        go_wp2_with (go_at_call 43; refine HC.out.mono ?_; rintro e w' ⟨rfl, hb'⟩)
        go_ret
        exact ⟨by rw [idx_hit hlt Hq.out A0.out]; rfl, hb'⟩
      | false =>
        rw [hq] at hcall
        have Hq := Aside0.mk hq
        have HC := Aside0.mk hcall
        clear hq hcall
        go_wp2_with (go_at_call 43; refine HC.out.mono ?_; rintro e w' ⟨rfl, hb'⟩)
        go_roundg (n - (kk + 1))
        case measure => omega
        case rel =>
          refine ⟨kk + 1, by omega, by omega, by go_num, ⟨hb'⟩, ⟨fun j hj => ?_⟩⟩
          by_cases e : j = kk
          · subst e; exact Hq.out
          · exact A0.out j (by omega)
    · have hltz : ¬ (kk : Int) < (n : Int) := by omega
      have : kk = n := by omega
      subst this
      go_wp2
      go_ret
      exact ⟨by rw [idx_miss A0.out]; rfl, BW.out⟩

set_option maxHeartbeats 1000000 in
theorem con32_43 (A : Option Addr) (n c : Nat) (sj : Nat → ByteArray) (p : Nat → Bool) (w : World) (hbig : n ≤ 9223372036854775807)
    (hc : ∀ j, j < n → ∃ ad, A = some ad ∧ w.cell? (ad.add j) = some (.string (sj j))) (hp : Pred43 sj p n w) :
    Calls Try.prog 32 #[.slice A n c, .func (.func 43) #[] #[]] w fun e w' => e = .returned (.bool ((List.range n).any p)) ∧ Below w.heap.size w w' := by
  have HC := Aside0.mk (idx57_43 A n c sj p w hbig hc hp)
  clear hc hp
  have hr := idx_any p n
  generalize idx p n = r at HC hr
  generalize (List.range n).any p = q at hr ⊢
  have Hr := Aside0.mk hr
  clear hr
  go_enter Try.func32, Try.ntmps32
  go_wp2_with (go_at_call 57; refine HC.out.mono ?_; rintro e w' ⟨rfl, hb'⟩)
  go_ret
  exact ⟨by rw [← Hr.out]; rfl, hb'⟩
theorem ctx_cells {w : World} {A : Option Addr} {cs : List S26} (h : Kd.C k26 w A cs.length cs) : ∀ j, j < cs.length → ∃ ad, A = some ad ∧ w.cell? (ad.add j) = some (.string (rd_T26 cs (j : Int)).f0) := fun j hj => by
  obtain ⟨ad, e, hc⟩ := at_T26 h (j : Int) (by omega) (by omega)
  exact ⟨ad, e, by simpa using hc⟩

def preBad (s : ByteArray) : Bool := !(decide (1 ≤ s.size) && decide (s.size ≤ 4))
def ctxBad (cs : List S26) : Bool := (List.range cs.length).any fun j => preBad (rd_T26 cs (j : Int)).f0
def ctxHuge (cs : List S26) : Bool := (List.range cs.length).any fun j => decide (1000000 ≤ (rd_T26 cs (j : Int)).f0.size)
def compress_Contexts.f (cs : List S26) : Option Int := if ctxHuge cs = true then none else some (if (decide (8 < cs.length) || ctxBad cs) = true then 1 else 0)
theorem in_pre (s : ByteArray) (h : s.size < 1000000) : compress_in.f ((s.size : Int) - 1) 3 = some (decide (1 ≤ s.size) && decide (s.size ≤ 4)) := by
  unfold compress_in.f
  by_cases h1 : (s.size : Int) - 1 ≥ 0
  · rw [if_pos h1]
    have : decide (1 ≤ s.size) = true := decide_eq_true (by omega)
    rw [this, Bool.true_and]
    simp only [Option.some.injEq, decide_eq_decide]
    omega
  · rw [if_neg h1]
    have : decide (1 ≤ s.size) = false := decide_eq_false (by omega)
    rw [this, Bool.false_and]
theorem pred43 (sj : Nat → ByteArray) (n : Nat) (w : World) (hs : ∀ j, j < n → (sj j).size < 1000000) : Pred43 sj (fun j => preBad (sj j)) n w := fun W j hj hb => by
  show Calls Try.prog 43 #[.agg #[.string (sj j)]] W fun e w' => e = .returned (.bool (!(decide (1 ≤ (sj j).size) && decide ((sj j).size ≤ 4)))) ∧ _
  have HI := Aside0.mk (in_pre (sj j) (hs j hj))
  have hsz := hs j hj
  generalize sj j = s at HI hsz ⊢
  generalize (decide (1 ≤ s.size) && decide (s.size ≤ 4)) = q at HI ⊢
  have HB := Aside0.mk hb
  have hw : wrap64 ((s.size : Int) - 1) = (s.size : Int) - 1 := by unfold wrap64; omega
  clear hj hb hs
  go_enter Try.func43, Try.ntmps43
  go_wp2_with (go_at_call 41; (try rw [hw]); refine (compress_in.calls _ _ _ _ HI.out).mono ?_; rintro e w' ⟨rfl, ⟨nd, rfl⟩⟩)
  go_ret
  exact ⟨rfl, by repeat (first | exact HB.out | apply below_alloc | apply pw_below_drewN | apply below_drew1)⟩
set_option maxRecDepth 100000 in
theorem compress_Contexts.calls (A : Option Addr) (c : Nat) (cs : List S26) (r : Int) (w : World) (hr : Kd.C k26 w A cs.length cs) (hc : cs.length ≤ c) (h : compress_Contexts.f cs = some r) :
    Calls Try.prog 22 #[.slice A cs.length c] w fun e w' => e = .returned (.int .i64 r) ∧ Below w.heap.size w w' := by
  unfold compress_Contexts.f at h
  by_cases hg : ctxHuge cs = true
  · rw [if_pos hg] at h; cases h
  rw [if_neg hg] at h
  have hs : ∀ j, j < cs.length → (rd_T26 cs (j : Int)).f0.size < 1000000 := fun j hj => by
    refine Nat.lt_of_not_le fun hle => hg ?_
    exact List.any_eq_true.2 ⟨j, by simpa using hj, decide_eq_true hle⟩
  obtain rfl := Option.some.inj h
  have HC := Aside0.mk (con32_43 A cs.length c _ _ w hr.2.1 (ctx_cells hr) (pred43 _ cs.length w hs))
  change Aside0 (Calls _ _ _ _ fun e w' => e = .returned (.bool (ctxBad cs)) ∧ _) at HC
  generalize ctxBad cs = q at HC ⊢
  have HB := Aside0.mk (Below.refl w.heap.size w)
  clear h hr hc hs hg
  by_cases h8 : 8 < cs.length
  · have d8 : decide (8 < cs.length) = true := decide_eq_true h8
    have g8 : (cs.length : Int) > 8 := by omega
    rw [d8]
    go_enter Try.func22, Try.ntmps22
    go_wp2_with fail
    go_ret
    exact ⟨rfl, HB.out⟩
  · have d8 : decide (8 < cs.length) = false := decide_eq_false h8
    have g8 : ¬ (cs.length : Int) > 8 := by omega
    rw [d8]
    cases q with
    | true =>
      go_enter Try.func22, Try.ntmps22
      go_wp2_with (go_at_call 32; refine HC.out.mono ?_; rintro e w' ⟨rfl, hb'⟩)
      go_ret
      exact ⟨rfl, hb'⟩
    | false =>
      go_enter Try.func22, Try.ntmps22
      go_wp2_with (go_at_call 32; refine HC.out.mono ?_; rintro e w' ⟨rfl, hb'⟩)
      go_ret
      exact ⟨rfl, hb'⟩
end Go.Proofs.Ytmbbijhppgkdfaa.P14
