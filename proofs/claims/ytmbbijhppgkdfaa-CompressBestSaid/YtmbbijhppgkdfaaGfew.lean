/- hopmeshlaw14.few: whether contexts are few and short. -/
import Derived.Test.YtmbbijhppgkdfaaGcon
namespace Go.Proofs.Ytmbbijhppgkdfaa.P14
open Go.RowKit Go.Proofs.YtmbbijhppgkdfaaW.PrintWords Go.Proofs.YtmbbijhppgkdfaaW.PrintLast Go.Proofs.YtmbbijhppgkdfaaW.PrintMore
attribute [local go_sem] max2_int min2_int max_two min_two max_three min_three max_four min_four
set_option linter.unusedVariables false
set_option linter.unusedSimpArgs false

/-- What is asked of function 33: called at element j it answers p j, and what lay lies. -/
def Pred33 (sj : Nat → ByteArray) (p : Nat → Bool) (n : Nat) (w : World) : Prop :=
  ∀ (W : World) (j : Nat), j < n → Below w.heap.size w W → Calls Try.prog 33 #[.agg #[.string (sj j)]] W fun e w' => e = .returned (.bool (p j)) ∧ Below w.heap.size w w'

set_option maxHeartbeats 1000000 in
theorem idx57_33 (A : Option Addr) (n c : Nat) (sj : Nat → ByteArray) (p : Nat → Bool) (w : World) (hbig : n ≤ 9223372036854775807)
    (hc : ∀ j, j < n → ∃ ad, A = some ad ∧ w.cell? (ad.add j) = some (.string (sj j))) (hp : Pred33 sj p n w) :
    Calls Try.prog 57 #[.slice A n c, .func (.func 33) #[] #[]] w fun e w' => e = .returned (.int .i64 (idx p n)) ∧ Below w.heap.size w w' := by
  have Hp := Aside0.mk hp
  have Hc := Aside0.mk hc
  clear hp hc
  go_enter Try.func57, Try.ntmps57
  go_wp2
  go_loopg [5, 8] n (fun gg _ s8 wr => ∃ kk : Nat, kk ≤ n ∧ n - kk ≤ gg ∧ s8 = .int .i64 kk ∧ Aside0 (Below w.heap.size w wr) ∧ Aside0 (∀ j, j < kk → p j = false))
  case atStart => exact ⟨0, Nat.zero_le _, by omega, rfl, ⟨Below.refl _ w⟩, ⟨fun j hj => absurd hj (Nat.not_lt_zero _)⟩⟩
  case round =>
    obtain ⟨kk, hkk, hg, rfl, BW, A0⟩ := hrel
    by_cases hlt : kk < n
    · have hltz : (kk : Int) < (n : Int) := by omega
      obtain ⟨ad, rfl, hcell0⟩ := Hc.out kk hlt
      have hcell := (BW.out.cell (World.block_lt_of_cell? w _ hcell0)).trans hcell0
      clear hcell0
      have hcall := Hp.out wr kk hlt BW.out
      generalize sj kk = vk at hcell hcall
      cases hq : p kk with
      | true =>
        rw [hq] at hcall
        have Hq := Aside0.mk hq
        have HC := Aside0.mk hcall
        clear hq hcall
        go_wp2_with (go_at_call 33; refine HC.out.mono ?_; rintro e w' ⟨rfl, hb'⟩)
        go_ret
        exact ⟨by rw [idx_hit hlt Hq.out A0.out]; rfl, hb'⟩
      | false =>
        rw [hq] at hcall
        have Hq := Aside0.mk hq
        have HC := Aside0.mk hcall
        clear hq hcall
        go_wp2_with (go_at_call 33; refine HC.out.mono ?_; rintro e w' ⟨rfl, hb'⟩)
        go_roundg (n - (kk + 1))
        case measure => omega
        case rel =>
          refine ⟨kk + 1, by omega, by omega, by go_num, ⟨hb'⟩, ⟨fun j hj => ?_⟩⟩
          by_cases e : j = kk
          · subst e; exact Hq.out
          · exact A0.out j (by omega)
    · have hltz : ¬ (kk : Int) < (n : Int) := by omega
      have : kk = n := by omega
      subst this
      go_wp2
      go_ret
      exact ⟨by rw [idx_miss A0.out]; rfl, BW.out⟩

set_option maxHeartbeats 1000000 in
theorem con32_33 (A : Option Addr) (n c : Nat) (sj : Nat → ByteArray) (p : Nat → Bool) (w : World) (hbig : n ≤ 9223372036854775807)
    (hc : ∀ j, j < n → ∃ ad, A = some ad ∧ w.cell? (ad.add j) = some (.string (sj j))) (hp : Pred33 sj p n w) :
    Calls Try.prog 32 #[.slice A n c, .func (.func 33) #[] #[]] w fun e w' => e = .returned (.bool ((List.range n).any p)) ∧ Below w.heap.size w w' := by
  have HC := Aside0.mk (idx57_33 A n c sj p w hbig hc hp)
  clear hc hp
  have hr := idx_any p n
  generalize idx p n = r at HC hr
  generalize (List.range n).any p = q at hr ⊢
  have Hr := Aside0.mk hr
  clear hr
  go_enter Try.func32, Try.ntmps32
  go_wp2_with (go_at_call 57; refine HC.out.mono ?_; rintro e w' ⟨rfl, hb'⟩)
  go_ret
  exact ⟨by rw [← Hr.out]; rfl, hb'⟩

def longP (cs : List S26) : Bool := (List.range cs.length).any fun j => decide ((((rd_T26 cs (j : Int)).f0.size : Nat) : Int) > 20)
def hopmeshlaw14_few.f (cs : List S26) : Option Bool := some (decide (cs.length ≤ 12) && !longP cs)
theorem pred33 (sj : Nat → ByteArray) (n : Nat) (w : World) : Pred33 sj (fun j => decide ((((sj j).size : Nat) : Int) > 20)) n w := fun W j hj hb => by
  show Calls Try.prog 33 #[.agg #[.string (sj j)]] W fun e w' => e = .returned (.bool (decide ((((sj j).size : Nat) : Int) > 20))) ∧ _
  generalize sj j = s
  have HB := Aside0.mk hb
  clear hj hb
  go_enter Try.func33, Try.ntmps33
  go_wp2_with fail
  go_ret
  exact ⟨rfl, by repeat (first | exact HB.out | apply below_alloc | apply pw_below_drewN | apply below_drew1)⟩
set_option maxRecDepth 100000 in
theorem hopmeshlaw14_few.calls (A : Option Addr) (c : Nat) (cs : List S26) (r : Bool) (w : World) (hr : Kd.C k26 w A cs.length cs) (hc : cs.length ≤ c) (h : hopmeshlaw14_few.f cs = some r) :
    Calls Try.prog 11 #[.slice A cs.length c] w fun e w' => e = .returned (.bool r) ∧ Below w.heap.size w w' := by
  obtain rfl := Option.some.inj h
  have HC := Aside0.mk (con32_33 A cs.length c _ _ w hr.2.1 (ctx_cells hr) (pred33 _ cs.length w))
  change Aside0 (Calls _ _ _ _ fun e w' => e = .returned (.bool (longP cs)) ∧ _) at HC
  generalize longP cs = q at HC ⊢
  have HB := Aside0.mk (Below.refl w.heap.size w)
  clear h hr hc
  by_cases h8 : cs.length ≤ 12
  · have d8 : decide (cs.length ≤ 12) = true := decide_eq_true h8
    have g8 : (cs.length : Int) ≤ 12 := by omega
    rw [d8, Bool.true_and]
    go_enter Try.func11, Try.ntmps11
    go_wp2_with (go_at_call 32; refine HC.out.mono ?_; rintro e w' ⟨rfl, hb'⟩)
    go_ret
    exact ⟨rfl, hb'⟩
  · have d8 : decide (cs.length ≤ 12) = false := decide_eq_false h8
    have g8 : ¬ (cs.length : Int) ≤ 12 := by omega
    rw [d8, Bool.false_and]
    go_enter Try.func11, Try.ntmps11
    go_wp2_with fail
    go_ret
    exact ⟨rfl, HB.out⟩
end Go.Proofs.Ytmbbijhppgkdfaa.P14
