/- The arguments of this seat's statements, opened: what a list of contexts or headers, a context and a header lie as. -/
import Derived.Test.YtmbbijhppgkdfaaP140
import Derived.Deep.Slices
import Derived.ProofKit
import Derived.Lib.SmallJoins
import Derived.ChangeArms
namespace Go.Proofs.Ytmbbijhppgkdfaa.P14
open Go.RowKit Go.Proofs.YtmbbijhppgkdfaaW.PrintWords Go.Proofs.YtmbbijhppgkdfaaW.PrintLast Go.Proofs.YtmbbijhppgkdfaaW.PrintMore Go.WideShapes Go.ChangeShapes Go.Joins
set_option linter.unusedVariables false
set_option linter.unusedSimpArgs false

/-- Whatever reads as data of type t lies as the kind d tells. -/
def Opens {α : Type} (t : TypeId) (d : Kd α) (w : World) : Prop :=
  ∀ (H : Type) (enc : TypeId × Value → H) (fuel : Nat) (cs : List Value) (x : DataW H × List MemPlace), DataW.trod enc Try.prog w 0 (fun _ => true) true fuel t cs = some x → ∃ v : α, d.K w v cs

theorem opens_slice {α : Type} [Inhabited α] {t e : TypeId} {d : Kd α} {w : World} (hu : Try.prog.underlying t = some (.slice e)) (hc : Try.prog.cellsOf e = d.sz) (h : Opens e d w) : Opens t (Kd.slice e d) w := fun H enc fuel cs x hx => by
  rcases Deep.open_slice hu hx with ⟨rfl, _⟩ | ⟨a, len, cap, m, n, D, Pl, rfl, _, hl, hm, hmm, _, hel⟩
  · exact ⟨[], none, 0, rfl, Nat.le_refl _, rfl, by simp, fun h => absurd h (by simp)⟩
  · simp only [if_true] at hmm
    subst hmm
    obtain ⟨f, hf⟩ := Deep.choose_lt (α := α) (n := len) (p := fun i v => ∃ cs', cs'.length = d.sz ∧ d.K w v cs' ∧ ∀ j u, cs'[j]? = some u → w.cell? (a.add (i * d.sz + j)) = some u) (fun i hi => by
      obtain ⟨cs', h1, h2⟩ := hel i (by omega)
      obtain ⟨_, hlen, hcell⟩ := World.cells?_some h1
      rw [hc] at hlen
      obtain ⟨v, hv⟩ := h H enc n cs' _ h2
      refine ⟨v, cs', hlen, hv, fun j u hu => ?_⟩
      have hj : j < cs'.length := by
        rcases Nat.lt_or_ge j cs'.length with h | h
        · exact h
        · rw [List.getElem?_eq_none h] at hu; cases hu
      have := hcell j (by rw [hc]; omega)
      rw [hc, Deep.add_add] at this
      rw [this, hu])
    have hlen : ((List.range len).map f).length = len := by simp
    refine ⟨(List.range len).map f, some a, m, by rw [hlen], by rw [hlen]; exact hl, ?_⟩
    show ReadsRow (d.K w) d.sz w (some a) _ _
    rw [hlen]
    refine ⟨hlen, by simp only [maxLen] at hm; omega, fun _ => ⟨a, rfl, fun j p hp => ?_⟩⟩
    rw [List.getElem?_map] at hp
    cases hr : (List.range len)[j]? with
    | none => rw [hr] at hp; cases hp
    | some i =>
      rw [hr] at hp
      have hj : j < len := by
        have := List.getElem?_eq_some_iff.1 hr
        obtain ⟨h1, _⟩ := this
        simpa using h1
      rw [List.getElem?_range hj] at hr
      obtain rfl := Option.some.inj hr
      obtain rfl := Option.some.inj hp
      exact hf j hj

instance : Inhabited S26 := ⟨z26⟩
instance : Inhabited S24 := ⟨z24⟩
set_option maxRecDepth 100000 in
theorem opens_26 (w : World) : Opens 26 k26 w := fun H enc fuel cs x h => by
  obtain ⟨xs, n, _, _, hl, hlen, hf⟩ := DataW.trod_struct Try.underlying26 h
  have hc : Try.prog.cellsOf 26 = 1 := by kernel_rfl
  have h9 : Try.prog.cellsOf 9 = 1 := by kernel_rfl
  rw [hc] at hl
  match cs, hl, xs, hlen with
  | [c0], _, [y0], _ =>
    obtain ⟨a, e0, _, _⟩ := DataW.trod_string Try.underlying9 (by simpa [h9] using hf 0 _ rfl)
    simp at e0
    subst e0
    exact ⟨⟨a⟩, k26_mk w ⟨a⟩⟩
set_option maxRecDepth 100000 in
theorem opens_24 (w : World) : Opens 24 k24 w := fun H enc fuel cs x h => by
  obtain ⟨xs, n, _, _, hl, hlen, hf⟩ := DataW.trod_struct Try.underlying24 h
  have hc : Try.prog.cellsOf 24 = 7 := by kernel_rfl
  have h3 : Try.prog.cellsOf 3 = 1 := by kernel_rfl
  have h9 : Try.prog.cellsOf 9 = 1 := by kernel_rfl
  rw [hc] at hl
  match cs, hl, xs, hlen with
  | [c0, c1, c2, c3, c4, c5, c6], _, [y0, y1, y2, y3, y4, y5, y6], _ =>
    obtain ⟨a, e0, _, _⟩ := DataW.trod_int Try.underlying3 (by simpa [h3, h9] using hf 0 _ rfl)
    obtain ⟨b, e1, _, _⟩ := DataW.trod_int Try.underlying3 (by simpa [h3, h9] using hf 1 _ rfl)
    obtain ⟨c, e2, _, _⟩ := DataW.trod_string Try.underlying9 (by simpa [h3, h9] using hf 2 _ rfl)
    obtain ⟨d, e3, _, _⟩ := DataW.trod_string Try.underlying9 (by simpa [h3, h9] using hf 3 _ rfl)
    obtain ⟨e, e4, _, _⟩ := DataW.trod_int Try.underlying3 (by simpa [h3, h9] using hf 4 _ rfl)
    obtain ⟨f, e5, _, _⟩ := DataW.trod_int Try.underlying3 (by simpa [h3, h9] using hf 5 _ rfl)
    obtain ⟨g, e6, _, _⟩ := DataW.trod_int Try.underlying3 (by simpa [h3, h9] using hf 6 _ rfl)
    simp at e0 e1 e2 e3 e4 e5 e6
    subst e0 e1 e2 e3 e4 e5 e6
    exact ⟨⟨a, b, c, d, e, f, g⟩, k24_mk w ⟨a, b, c, d, e, f, g⟩⟩

set_option maxRecDepth 100000 in
/-- A slice among the arguments. -/
theorem open_arg_slice {α : Type} [Inhabited α] {t e : TypeId} {d : Kd α} {w : World} {H : Type} {enc : TypeId × Value → H} {v : Value} {D : DataW H} {p : List MemPlace} {r : Reach} {b : Nat} (hu : Try.prog.underlying t = some (.slice e)) (hc : Try.prog.cellsOf e = d.sz) (ho : Opens e d w)
    (hv : Value.okWide Try.prog w r b t v) (h : DataW.Trod enc Try.prog w 0 (fun _ => true) true t v D p) : ∃ (A : Option Addr) (c : Nat) (l : List α), v = .slice A l.length c ∧ l.length ≤ c ∧ d.C w A l.length l := by
  obtain ⟨A, n, c, rfl⟩ := okWide_slice hu hv
  obtain ⟨fuel, hf⟩ := h
  obtain ⟨l, A', c', e, hl, hC⟩ := opens_slice hu hc ho H enc fuel _ _ hf
  simp [Value.cells] at e
  obtain ⟨rfl, rfl, rfl⟩ := e
  exact ⟨A, c, l, rfl, hl, hC⟩
set_option maxRecDepth 100000 in
/-- A context, a header among the arguments. -/
theorem open_context {w : World} {H : Type} {enc : TypeId × Value → H} {v : Value} {D : DataW H} {p : List MemPlace} {r : Reach} {b : Nat}
    (hv : Value.okWide Try.prog w r b 26 v) (h : DataW.Trod enc Try.prog w 0 (fun _ => true) true 26 v D p) : ∃ x : S26, v = .agg #[.string x.f0] := by
  obtain ⟨cs, rfl, hsz⟩ := okWide_struct Try.underlying26 hv
  obtain ⟨fuel, hf0⟩ := h
  obtain ⟨x, hx⟩ := opens_26 w H enc fuel _ _ hf0
  refine ⟨x, ?_⟩
  have := k26_open hx
  simp [Value.cells] at this
  rw [← this]
set_option maxRecDepth 100000 in
theorem open_header {w : World} {H : Type} {enc : TypeId × Value → H} {v : Value} {D : DataW H} {p : List MemPlace} {r : Reach} {b : Nat}
    (hv : Value.okWide Try.prog w r b 24 v) (h : DataW.Trod enc Try.prog w 0 (fun _ => true) true 24 v D p) : ∃ x : S24, v = .agg #[.int .i64 x.f0, .int .i64 x.f1, .string x.f2, .string x.f3, .int .i64 x.f4, .int .i64 x.f5, .int .i64 x.f6] := by
  obtain ⟨cs, rfl, hsz⟩ := okWide_struct Try.underlying24 hv
  obtain ⟨fuel, hf0⟩ := h
  obtain ⟨x, hx⟩ := opens_24 w H enc fuel _ _ hf0
  refine ⟨x, ?_⟩
  have := k24_open hx
  simp [Value.cells] at this
  rw [← this]
end Go.Proofs.Ytmbbijhppgkdfaa.P14
