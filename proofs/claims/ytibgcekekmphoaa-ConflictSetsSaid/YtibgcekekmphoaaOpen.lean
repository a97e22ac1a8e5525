/- The arguments of this seat's statements, opened: what a network, a list of cells or links, a cell and a link lie as. -/
import Derived.Test.YtibgcekekmphoaaP340
import Derived.Deep.Slices
import Derived.ProofKit
import Derived.Lib.SmallJoins
namespace Go.Proofs.Ytibgcekekmphoaa.P34
open Go.RowKit Go.Proofs.YtibgcekekmphoaaW.PrintWords Go.Proofs.YtibgcekekmphoaaW.PrintLast Go.Proofs.YtibgcekekmphoaaW.PrintMore Go.WideShapes Go.ChangeShapes Go.Joins
set_option linter.unusedVariables false
set_option linter.unusedSimpArgs false

/-- Whatever reads as data of type t lies as the kind d tells. -/
def Opens {α : Type} (t : TypeId) (d : Kd α) (w : World) : Prop :=
  ∀ (H : Type) (enc : TypeId × Value → H) (fuel : Nat) (cs : List Value) (x : DataW H × List MemPlace), DataW.trod enc Try.prog w 0 (fun _ => true) true fuel t cs = some x → ∃ v : α, d.K w v cs

theorem opens_int (w : World) : Opens 3 (Kd.int .i64) w := fun H enc fuel cs x h => by
  obtain ⟨a, e0, _, _⟩ := DataW.trod_int Try.underlying3 h
  exact ⟨a, e0⟩
theorem opens_slice {α : Type} [Inhabited α] {t e : TypeId} {d : Kd α} {w : World} (hu : Try.prog.underlying t = some (.slice e)) (hc : Try.prog.cellsOf e = d.sz) (h : Opens e d w) : Opens t (Kd.slice e d) w := fun H enc fuel cs x hx => by
  rcases Deep.open_slice hu hx with ⟨rfl, _⟩ | ⟨a, len, cap, m, n, D, Pl, rfl, _, hl, hm, hmm, _, hel⟩
  · exact ⟨[], none, 0, rfl, Nat.le_refl _, rfl, by simp, fun h => absurd h (by simp)⟩
  · simp only [if_true] at hmm
    subst hmm
    obtain ⟨f, hf⟩ := Deep.choose_lt (α := α) (n := len) (p := fun i v => ∃ cs', cs'.length = d.sz ∧ d.K w v cs' ∧ ∀ j u, cs'[j]? = some u → w.cell? (a.add (i * d.sz + j)) = some u) (fun i hi => by
      obtain ⟨cs', h1, h2⟩ := hel i (by omega)
      obtain ⟨_, hlen, hcell⟩ := World.cells?_some h1
      rw [hc] at hlen
      obtain ⟨v, hv⟩ := h H enc n cs' _ h2
      refine ⟨v, cs', hlen, hv, fun j u hu => ?_⟩
      have hj : j < cs'.length := by
        rcases Nat.lt_or_ge j cs'.length with h | h
        · exact h
        · rw [List.getElem?_eq_none h] at hu; cases hu
      have := hcell j (by rw [hc]; omega)
      rw [hc, Deep.add_add] at this
      rw [this, hu])
    have hlen : ((List.range len).map f).length = len := by simp
    refine ⟨(List.range len).map f, some a, m, by rw [hlen], by rw [hlen]; exact hl, ?_⟩
    show ReadsRow (d.K w) d.sz w (some a) _ _
    rw [hlen]
    refine ⟨hlen, by simp only [maxLen] at hm; omega, fun _ => ⟨a, rfl, fun j p hp => ?_⟩⟩
    rw [List.getElem?_map] at hp
    cases hr : (List.range len)[j]? with
    | none => rw [hr] at hp; cases hp
    | some i =>
      rw [hr] at hp
      have hj : j < len := by
        have := List.getElem?_eq_some_iff.1 hr
        obtain ⟨h1, _⟩ := this
        simpa using h1
      rw [List.getElem?_range hj] at hr
      obtain rfl := Option.some.inj hr
      obtain rfl := Option.some.inj hp
      exact hf j hj

instance : Inhabited S44 := ⟨z44⟩
instance : Inhabited S36 := ⟨z36⟩
set_option maxRecDepth 100000 in
theorem opens_44 (w : World) : Opens 44 k44 w := fun H enc fuel cs x h => by
  obtain ⟨xs, n, _, _, hl, hlen, hf⟩ := DataW.trod_struct Try.underlying44 h
  have hc : Try.prog.cellsOf 44 = 3 := by kernel_rfl
  have h3 : Try.prog.cellsOf 3 = 1 := by kernel_rfl
  rw [hc] at hl
  match cs, hl, xs, hlen with
  | [c0, c1, c2], _, [y0, y1, y2], _ =>
    obtain ⟨a, e0, _, _⟩ := DataW.trod_int Try.underlying3 (by simpa [h3] using hf 0 _ rfl)
    obtain ⟨b, e1, _, _⟩ := DataW.trod_int Try.underlying3 (by simpa [h3] using hf 1 _ rfl)
    obtain ⟨c, e2, _, _⟩ := DataW.trod_int Try.underlying3 (by simpa [h3] using hf 2 _ rfl)
    simp at e0 e1 e2
    subst e0 e1 e2
    exact ⟨⟨a, b, c⟩, k44_mk w ⟨a, b, c⟩⟩
set_option maxRecDepth 100000 in
theorem opens_36 (w : World) : Opens 36 k36 w := fun H enc fuel cs x h => by
  obtain ⟨xs, n, _, _, hl, hlen, hf⟩ := DataW.trod_struct Try.underlying36 h
  have hc : Try.prog.cellsOf 36 = 5 := by kernel_rfl
  have h3 : Try.prog.cellsOf 3 = 1 := by kernel_rfl
  rw [hc] at hl
  match cs, hl, xs, hlen with
  | [c0, c1, c2, c3, c4], _, [y0, y1, y2, y3, y4], _ =>
    obtain ⟨a, e0, _, _⟩ := DataW.trod_int Try.underlying3 (by simpa [h3] using hf 0 _ rfl)
    obtain ⟨b, e1, _, _⟩ := DataW.trod_int Try.underlying3 (by simpa [h3] using hf 1 _ rfl)
    obtain ⟨c, e2, _, _⟩ := DataW.trod_int Try.underlying3 (by simpa [h3] using hf 2 _ rfl)
    obtain ⟨d, e3, _, _⟩ := DataW.trod_int Try.underlying3 (by simpa [h3] using hf 3 _ rfl)
    obtain ⟨e, e4, _, _⟩ := DataW.trod_int Try.underlying3 (by simpa [h3] using hf 4 _ rfl)
    simp at e0 e1 e2 e3 e4
    subst e0 e1 e2 e3 e4
    exact ⟨⟨a, b, c, d, e⟩, k36_mk w ⟨a, b, c, d, e⟩⟩

set_option maxRecDepth 100000 in
/-- A slice among the arguments. -/
theorem open_arg_slice {α : Type} [Inhabited α] {t e : TypeId} {d : Kd α} {w : World} {H : Type} {enc : TypeId × Value → H} {v : Value} {D : DataW H} {p : List MemPlace} {r : Reach} {b : Nat} (hu : Try.prog.underlying t = some (.slice e)) (hc : Try.prog.cellsOf e = d.sz) (ho : Opens e d w)
    (hv : Value.okWide Try.prog w r b t v) (h : DataW.Trod enc Try.prog w 0 (fun _ => true) true t v D p) : ∃ (A : Option Addr) (c : Nat) (l : List α), v = .slice A l.length c ∧ l.length ≤ c ∧ d.C w A l.length l := by
  obtain ⟨A, n, c, rfl⟩ := okWide_slice hu hv
  obtain ⟨fuel, hf⟩ := h
  obtain ⟨l, A', c', e, hl, hC⟩ := opens_slice hu hc ho H enc fuel _ _ hf
  simp [Value.cells] at e
  obtain ⟨rfl, rfl, rfl⟩ := e
  exact ⟨A, c, l, rfl, hl, hC⟩
theorem array6 {α : Type} {cs : Array α} (h : cs.size = 6) : ∃ c0 c1 c2 c3 c4 c5, cs = #[c0, c1, c2, c3, c4, c5] := by
  obtain ⟨l⟩ := cs
  match l, h with
  | [c0, c1, c2, c3, c4, c5], _ => exact ⟨c0, c1, c2, c3, c4, c5, rfl⟩
theorem array5 {α : Type} {cs : Array α} (h : cs.size = 5) : ∃ c0 c1 c2 c3 c4, cs = #[c0, c1, c2, c3, c4] := by
  obtain ⟨l⟩ := cs
  match l, h with
  | [c0, c1, c2, c3, c4], _ => exact ⟨c0, c1, c2, c3, c4, rfl⟩
set_option maxRecDepth 100000 in
/-- A network among the arguments. -/
theorem open_net {w : World} {H : Type} {enc : TypeId × Value → H} {v : Value} {D : DataW H} {p : List MemPlace} {r : Reach} {b : Nat}
    (hv : Value.okWide Try.prog w r b 26 v) (h : DataW.Trod enc Try.prog w 0 (fun _ => true) true 26 v D p) :
    ∃ (a0_0 : Int) (A0_1 : Option Addr) (c0_1 : Nat) (l0_1 : List (List Int)) (a0_2 : Int) (a0_3 : Int) (A0_4 : Option Addr) (c0_4 : Nat) (l0_4 : List S44) (A0_5 : Option Addr) (c0_5 : Nat) (l0_5 : List Int),
      v = .agg #[.int .i64 a0_0, .slice A0_1 l0_1.length c0_1, .int .i64 a0_2, .int .i64 a0_3, .slice A0_4 l0_4.length c0_4, .slice A0_5 l0_5.length c0_5] ∧
      Kd.C (Kd.slice 3 (Kd.int .i64)) w A0_1 l0_1.length l0_1 ∧ l0_1.length ≤ c0_1 ∧ Kd.C k44 w A0_4 l0_4.length l0_4 ∧ l0_4.length ≤ c0_4 ∧ Kd.C (Kd.int .i64) w A0_5 l0_5.length l0_5 ∧ l0_5.length ≤ c0_5 := by
  obtain ⟨cs, rfl, hsz⟩ := okWide_struct Try.underlying26 hv
  have hc : Try.prog.cellsOf 26 = 6 := by kernel_rfl
  have h3 : Try.prog.cellsOf 3 = 1 := by kernel_rfl
  have h22 : Try.prog.cellsOf 22 = 1 := by kernel_rfl
  have h23 : Try.prog.cellsOf 23 = 1 := by kernel_rfl
  have h24 : Try.prog.cellsOf 24 = 1 := by kernel_rfl
  obtain ⟨c0, c1, c2, c3, c4, c5, rfl⟩ := array6 (hsz.trans hc)
  obtain ⟨fuel, hf0⟩ := h
  obtain ⟨xs, n, _, _, hl, hlen, hf⟩ := DataW.trod_struct Try.underlying26 hf0
  match xs, hlen with
  | [y0, y1, y2, y3, y4, y5], _ =>
    obtain ⟨m, e0, _, _⟩ := DataW.trod_int Try.underlying3 (by simpa [h3, Value.cells] using hf 0 _ rfl)
    obtain ⟨no, e2, _, _⟩ := DataW.trod_int Try.underlying3 (by simpa [h3, Value.cells] using hf 2 _ rfl)
    obtain ⟨th, e3, _, _⟩ := DataW.trod_int Try.underlying3 (by simpa [h3, Value.cells] using hf 3 _ rfl)
    obtain ⟨pw, A1, k1, e1, q1, r1⟩ := opens_slice (d := Kd.slice 3 (Kd.int .i64)) Try.underlying22 (by kernel_rfl) (opens_slice (d := Kd.int .i64) Try.underlying24 (by kernel_rfl) (opens_int w)) H enc n _ _ (by simpa [h22, Value.cells] using hf 1 _ rfl)
    obtain ⟨ls, A4, k4, e4, q4, r4⟩ := opens_slice (d := k44) Try.underlying23 (by kernel_rfl) (opens_44 w) H enc n _ _ (by simpa [h23, Value.cells] using hf 4 _ rfl)
    obtain ⟨mg, A5, k5, e5, q5, r5⟩ := opens_slice (d := Kd.int .i64) Try.underlying24 (by kernel_rfl) (opens_int w) H enc n _ _ (by simpa [h24, Value.cells] using hf 5 _ rfl)
    simp at e0 e1 e2 e3 e4 e5
    subst e0 e1 e2 e3 e4 e5
    exact ⟨m, A1, k1, pw, no, th, A4, k4, ls, A5, k5, mg, rfl, r1, q1, r4, q4, r5, q5⟩
set_option maxRecDepth 100000 in
/-- A cell, a link among the arguments. -/
theorem open_cell {w : World} {H : Type} {enc : TypeId × Value → H} {v : Value} {D : DataW H} {p : List MemPlace} {r : Reach} {b : Nat}
    (hv : Value.okWide Try.prog w r b 36 v) (h : DataW.Trod enc Try.prog w 0 (fun _ => true) true 36 v D p) : ∃ x : S36, v = .agg #[.int .i64 x.f0, .int .i64 x.f1, .int .i64 x.f2, .int .i64 x.f3, .int .i64 x.f4] := by
  obtain ⟨cs, rfl, hsz⟩ := okWide_struct Try.underlying36 hv
  obtain ⟨fuel, hf0⟩ := h
  obtain ⟨x, hx⟩ := opens_36 w H enc fuel _ _ hf0
  refine ⟨x, ?_⟩
  have := k36_open hx
  simp [Value.cells] at this
  rw [← this]
set_option maxRecDepth 100000 in
theorem open_link {w : World} {H : Type} {enc : TypeId × Value → H} {v : Value} {D : DataW H} {p : List MemPlace} {r : Reach} {b : Nat}
    (hv : Value.okWide Try.prog w r b 44 v) (h : DataW.Trod enc Try.prog w 0 (fun _ => true) true 44 v D p) : ∃ x : S44, v = .agg #[.int .i64 x.f0, .int .i64 x.f1, .int .i64 x.f2] := by
  obtain ⟨cs, rfl, hsz⟩ := okWide_struct Try.underlying44 hv
  obtain ⟨fuel, hf0⟩ := h
  obtain ⟨x, hx⟩ := opens_44 w H enc fuel _ _ hf0
  refine ⟨x, ?_⟩
  have := k44_open hx
  simp [Value.cells] at this
  rw [← this]
end Go.Proofs.Ytibgcekekmphoaa.P34
