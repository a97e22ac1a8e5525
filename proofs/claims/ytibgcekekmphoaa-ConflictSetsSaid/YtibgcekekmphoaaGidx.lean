/- slices.IndexFunc and slices.ContainsFunc at the element types of this program: the first place at which a function value says true, for any function value that leaves what lay in memory as it was. -/
import Derived.Test.YtibgcekekmphoaaP340
namespace Go.Proofs.Ytibgcekekmphoaa.P34
open Go.RowKit Go.Proofs.YtibgcekekmphoaaW.PrintWords Go.Proofs.YtibgcekekmphoaaW.PrintLast Go.Proofs.YtibgcekekmphoaaW.PrintMore

/-- The first place below n, or -1. -/
def idx (p : Nat → Bool) (n : Nat) : Int := match (List.range n).find? p with | some j => (j : Int) | none => -1
theorem idx_hit {p : Nat → Bool} {n k : Nat} (hk : k < n) (hp : p k = true) (h : ∀ j, j < k → p j = false) : idx p n = (k : Int) := by
  unfold idx
  have : (List.range n).find? p = some k := by
    rw [List.find?_range_eq_some]
    exact ⟨hp, by simpa using hk, fun j hj => by simpa using h j hj⟩
  rw [this]
theorem idx_miss {p : Nat → Bool} {n : Nat} (h : ∀ j, j < n → p j = false) : idx p n = -1 := by
  unfold idx
  have : (List.range n).find? p = none := by
    rw [List.find?_eq_none]
    intro x hx
    simp [h x (by simpa using hx)]
  rw [this]
theorem idx_any (p : Nat → Bool) (n : Nat) : decide (idx p n ≥ 0) = (List.range n).any p := by
  unfold idx
  cases h : (List.range n).find? p with
  | some j =>
    have := List.find?_some h
    have hm := List.mem_of_find?_eq_some h
    have : (List.range n).any p = true := List.any_eq_true.2 ⟨j, hm, this⟩
    rw [this]
    simp
  | none =>
    have h' : (List.range n).any p = false := by
      rw [List.any_eq_false]
      intro x hx
      have := List.find?_eq_none.1 h x hx
      simpa using this
    rw [h']
    rfl

/-- What is asked of function 65: called at element j it answers p j, and what lay lies. -/
def Pred65 (B : Nat) (val : Nat → Value) (p : Nat → Bool) (n : Nat) (w : World) : Prop :=
  ∀ (W : World) (j : Nat), j < n → Below w.heap.size w W → Calls Try.prog 65 #[val j, .pointer (some ⟨B, 0, none⟩)] W fun e w' => e = .returned (.bool (p j)) ∧ Below w.heap.size w w'

set_option maxHeartbeats 1000000 in
theorem idx82_65 (B : Nat) (A : Option Addr) (n c : Nat) (val : Nat → Value) (p : Nat → Bool) (w : World) (hbig : n ≤ 9223372036854775807)
    (hc : ∀ j, j < n → ∃ ad, A = some ad ∧ w.cell? (ad.add j) = some (val j)) (hp : Pred65 B val p n w) :
    Calls Try.prog 82 #[.slice A n c, .func (.func 65) #[] #[.pointer (some ⟨B, 0, none⟩)]] w fun e w' => e = .returned (.int .i64 (idx p n)) ∧ Below w.heap.size w w' := by
  have Hp := Aside0.mk hp
  have Hc := Aside0.mk hc
  clear hp hc
  go_enter Try.func82, Try.ntmps82
  go_wp2
  go_loopg [5, 8] n (fun gg _ s8 wr => ∃ kk : Nat, kk ≤ n ∧ n - kk ≤ gg ∧ s8 = .int .i64 kk ∧ Aside0 (Below w.heap.size w wr) ∧ Aside0 (∀ j, j < kk → p j = false))
  case atStart => exact ⟨0, Nat.zero_le _, by omega, rfl, ⟨Below.refl _ w⟩, ⟨fun j hj => absurd hj (Nat.not_lt_zero _)⟩⟩
  case round =>
    obtain ⟨kk, hkk, hg, rfl, BW, A0⟩ := hrel
    by_cases hlt : kk < n
    · have hltz : (kk : Int) < (n : Int) := by omega
      obtain ⟨ad, rfl, hcell0⟩ := Hc.out kk hlt
      have hcell := (BW.out.cell (World.block_lt_of_cell? w _ hcell0)).trans hcell0
      clear hcell0
      have hcall := Hp.out wr kk hlt BW.out
      generalize val kk = vk at hcell hcall
      cases hq : p kk with
      | true =>
        rw [hq] at hcall
        have Hq := Aside0.mk hq
        have HC := Aside0.mk hcall
        clear hq hcall
        go_wp2_with (go_at_call 65; refine HC.out.mono ?_; rintro e w' ⟨rfl, hb'⟩)
        go_ret
        exact ⟨by rw [idx_hit hlt Hq.out A0.out]; rfl, hb'⟩
      | false =>
        rw [hq] at hcall
        have Hq := Aside0.mk hq
        have HC := Aside0.mk hcall
        clear hq hcall
        go_wp2_with (go_at_call 65; refine HC.out.mono ?_; rintro e w' ⟨rfl, hb'⟩)
        go_roundg (n - (kk + 1))
        case measure => omega
        case rel =>
          refine ⟨kk + 1, by omega, by omega, by go_num, ⟨hb'⟩, ⟨fun j hj => ?_⟩⟩
          by_cases e : j = kk
          · subst e; exact Hq.out
          · exact A0.out j (by omega)
    · have hltz : ¬ (kk : Int) < (n : Int) := by omega
      have : kk = n := by omega
      subst this
      go_wp2
      go_ret
      exact ⟨by rw [idx_miss A0.out]; rfl, BW.out⟩

set_option maxHeartbeats 1000000 in
theorem con64_65 (B : Nat) (A : Option Addr) (n c : Nat) (val : Nat → Value) (p : Nat → Bool) (w : World) (hbig : n ≤ 9223372036854775807)
    (hc : ∀ j, j < n → ∃ ad, A = some ad ∧ w.cell? (ad.add j) = some (val j)) (hp : Pred65 B val p n w) :
    Calls Try.prog 64 #[.slice A n c, .func (.func 65) #[] #[.pointer (some ⟨B, 0, none⟩)]] w fun e w' => e = .returned (.bool ((List.range n).any p)) ∧ Below w.heap.size w w' := by
  have HC := Aside0.mk (idx82_65 B A n c val p w hbig hc hp)
  clear hc hp
  have hr := idx_any p n
  generalize idx p n = r at HC hr
  generalize (List.range n).any p = q at hr ⊢
  have Hr := Aside0.mk hr
  clear hr
  go_enter Try.func64, Try.ntmps64
  go_wp2_with (go_at_call 82; refine HC.out.mono ?_; rintro e w' ⟨rfl, hb'⟩)
  go_ret
  exact ⟨by rw [← Hr.out]; rfl, hb'⟩

/-- What is asked of function 66: called at element j it answers p j, and what lay lies. -/
def Pred66 (val : Nat → Value) (p : Nat → Bool) (n : Nat) (w : World) : Prop :=
  ∀ (W : World) (j : Nat), j < n → Below w.heap.size w W → Calls Try.prog 66 #[val j] W fun e w' => e = .returned (.bool (p j)) ∧ Below w.heap.size w w'

set_option maxHeartbeats 1000000 in
theorem idx83_66 (A : Option Addr) (n c : Nat) (val : Nat → Value) (p : Nat → Bool) (w : World) (hbig : n ≤ 9223372036854775807)
    (hc : ∀ j, j < n → ∃ ad, A = some ad ∧ w.cell? (ad.add j) = some (val j)) (hp : Pred66 val p n w) :
    Calls Try.prog 83 #[.slice A n c, .func (.func 66) #[] #[]] w fun e w' => e = .returned (.int .i64 (idx p n)) ∧ Below w.heap.size w w' := by
  have Hp := Aside0.mk hp
  have Hc := Aside0.mk hc
  clear hp hc
  go_enter Try.func83, Try.ntmps83
  go_wp2
  go_loopg [5, 8] n (fun gg _ s8 wr => ∃ kk : Nat, kk ≤ n ∧ n - kk ≤ gg ∧ s8 = .int .i64 kk ∧ Aside0 (Below w.heap.size w wr) ∧ Aside0 (∀ j, j < kk → p j = false))
  case atStart => exact ⟨0, Nat.zero_le _, by omega, rfl, ⟨Below.refl _ w⟩, ⟨fun j hj => absurd hj (Nat.not_lt_zero _)⟩⟩
  case round =>
    obtain ⟨kk, hkk, hg, rfl, BW, A0⟩ := hrel
    by_cases hlt : kk < n
    · have hltz : (kk : Int) < (n : Int) := by omega
      obtain ⟨ad, rfl, hcell0⟩ := Hc.out kk hlt
      have hcell := (BW.out.cell (World.block_lt_of_cell? w _ hcell0)).trans hcell0
      clear hcell0
      have hcall := Hp.out wr kk hlt BW.out
      generalize val kk = vk at hcell hcall
      cases hq : p kk with
      | true =>
        rw [hq] at hcall
        have Hq := Aside0.mk hq
        have HC := Aside0.mk hcall
        clear hq hcall
        go_wp2_with (go_at_call 66; refine HC.out.mono ?_; rintro e w' ⟨rfl, hb'⟩)
        go_ret
        exact ⟨by rw [idx_hit hlt Hq.out A0.out]; rfl, hb'⟩
      | false =>
        rw [hq] at hcall
        have Hq := Aside0.mk hq
        have HC := Aside0.mk hcall
        clear hq hcall
        go_wp2_with (go_at_call 66; refine HC.out.mono ?_; rintro e w' ⟨rfl, hb'⟩)
        go_roundg (n - (kk + 1))
        case measure => omega
        case rel =>
          refine ⟨kk + 1, by omega, by omega, by go_num, ⟨hb'⟩, ⟨fun j hj => ?_⟩⟩
          by_cases e : j = kk
          · subst e; exact Hq.out
          · exact A0.out j (by omega)
    · have hltz : ¬ (kk : Int) < (n : Int) := by omega
      have : kk = n := by omega
      subst this
      go_wp2
      go_ret
      exact ⟨by rw [idx_miss A0.out]; rfl, BW.out⟩

set_option maxHeartbeats 1000000 in
theorem con68_66 (A : Option Addr) (n c : Nat) (val : Nat → Value) (p : Nat → Bool) (w : World) (hbig : n ≤ 9223372036854775807)
    (hc : ∀ j, j < n → ∃ ad, A = some ad ∧ w.cell? (ad.add j) = some (val j)) (hp : Pred66 val p n w) :
    Calls Try.prog 68 #[.slice A n c, .func (.func 66) #[] #[]] w fun e w' => e = .returned (.bool ((List.range n).any p)) ∧ Below w.heap.size w w' := by
  have HC := Aside0.mk (idx83_66 A n c val p w hbig hc hp)
  clear hc hp
  have hr := idx_any p n
  generalize idx p n = r at HC hr
  generalize (List.range n).any p = q at hr ⊢
  have Hr := Aside0.mk hr
  clear hr
  go_enter Try.func68, Try.ntmps68
  go_wp2_with (go_at_call 83; refine HC.out.mono ?_; rintro e w' ⟨rfl, hb'⟩)
  go_ret
  exact ⟨by rw [← Hr.out]; rfl, hb'⟩

/-- What is asked of function 67: called at element j it answers p j, and what lay lies. -/
def Pred67 (B : Nat) (val : Nat → Value) (p : Nat → Bool) (n : Nat) (w : World) : Prop :=
  ∀ (W : World) (j : Nat), j < n → Below w.heap.size w W → Calls Try.prog 67 #[val j, .pointer (some ⟨B, 0, none⟩)] W fun e w' => e = .returned (.bool (p j)) ∧ Below w.heap.size w w'

set_option maxHeartbeats 1000000 in
theorem idx82_67 (B : Nat) (A : Option Addr) (n c : Nat) (val : Nat → Value) (p : Nat → Bool) (w : World) (hbig : n ≤ 9223372036854775807)
    (hc : ∀ j, j < n → ∃ ad, A = some ad ∧ w.cell? (ad.add j) = some (val j)) (hp : Pred67 B val p n w) :
    Calls Try.prog 82 #[.slice A n c, .func (.func 67) #[] #[.pointer (some ⟨B, 0, none⟩)]] w fun e w' => e = .returned (.int .i64 (idx p n)) ∧ Below w.heap.size w w' := by
  have Hp := Aside0.mk hp
  have Hc := Aside0.mk hc
  clear hp hc
  go_enter Try.func82, Try.ntmps82
  go_wp2
  go_loopg [5, 8] n (fun gg _ s8 wr => ∃ kk : Nat, kk ≤ n ∧ n - kk ≤ gg ∧ s8 = .int .i64 kk ∧ Aside0 (Below w.heap.size w wr) ∧ Aside0 (∀ j, j < kk → p j = false))
  case atStart => exact ⟨0, Nat.zero_le _, by omega, rfl, ⟨Below.refl _ w⟩, ⟨fun j hj => absurd hj (Nat.not_lt_zero _)⟩⟩
  case round =>
    obtain ⟨kk, hkk, hg, rfl, BW, A0⟩ := hrel
    by_cases hlt : kk < n
    · have hltz : (kk : Int) < (n : Int) := by omega
      obtain ⟨ad, rfl, hcell0⟩ := Hc.out kk hlt
      have hcell := (BW.out.cell (World.block_lt_of_cell? w _ hcell0)).trans hcell0
      clear hcell0
      have hcall := Hp.out wr kk hlt BW.out
      generalize val kk = vk at hcell hcall
      cases hq : p kk with
      | true =>
        rw [hq] at hcall
        have Hq := Aside0.mk hq
        have HC := Aside0.mk hcall
        clear hq hcall
        go_wp2_with (go_at_call 67; refine HC.out.mono ?_; rintro e w' ⟨rfl, hb'⟩)
        go_ret
        exact ⟨by rw [idx_hit hlt Hq.out A0.out]; rfl, hb'⟩
      | false =>
        rw [hq] at hcall
        have Hq := Aside0.mk hq
        have HC := Aside0.mk hcall
        clear hq hcall
        go_wp2_with (go_at_call 67; refine HC.out.mono ?_; rintro e w' ⟨rfl, hb'⟩)
        go_roundg (n - (kk + 1))
        case measure => omega
        case rel =>
          refine ⟨kk + 1, by omega, by omega, by go_num, ⟨hb'⟩, ⟨fun j hj => ?_⟩⟩
          by_cases e : j = kk
          · subst e; exact Hq.out
          · exact A0.out j (by omega)
    · have hltz : ¬ (kk : Int) < (n : Int) := by omega
      have : kk = n := by omega
      subst this
      go_wp2
      go_ret
      exact ⟨by rw [idx_miss A0.out]; rfl, BW.out⟩

set_option maxHeartbeats 1000000 in
theorem con64_67 (B : Nat) (A : Option Addr) (n c : Nat) (val : Nat → Value) (p : Nat → Bool) (w : World) (hbig : n ≤ 9223372036854775807)
    (hc : ∀ j, j < n → ∃ ad, A = some ad ∧ w.cell? (ad.add j) = some (val j)) (hp : Pred67 B val p n w) :
    Calls Try.prog 64 #[.slice A n c, .func (.func 67) #[] #[.pointer (some ⟨B, 0, none⟩)]] w fun e w' => e = .returned (.bool ((List.range n).any p)) ∧ Below w.heap.size w w' := by
  have HC := Aside0.mk (idx82_67 B A n c val p w hbig hc hp)
  clear hc hp
  have hr := idx_any p n
  generalize idx p n = r at HC hr
  generalize (List.range n).any p = q at hr ⊢
  have Hr := Aside0.mk hr
  clear hr
  go_enter Try.func64, Try.ntmps64
  go_wp2_with (go_at_call 82; refine HC.out.mono ?_; rintro e w' ⟨rfl, hb'⟩)
  go_ret
  exact ⟨by rw [← Hr.out]; rfl, hb'⟩

end Go.Proofs.Ytibgcekekmphoaa.P34
