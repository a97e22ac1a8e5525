/- A row of strings that the library sorts: the words of the sort and those of the print. -/
import Derived.Test.YtmbbijhppgkdfaaGcmp
import Derived.Shelf.GgSortFunc.Insertion
namespace Go.Proofs.Ytmbbijhppgkdfaa.P14
open Go.RowKit Go.Proofs.YtmbbijhppgkdfaaW.PrintWords Go.Proofs.YtmbbijhppgkdfaaW.PrintLast Go.Proofs.YtmbbijhppgkdfaaW.PrintMore
set_option linter.unusedVariables false
set_option linter.unusedSimpArgs false
open Go.Sort Go.Proofs Go.Maps

section
variable {α : Type} [Inhabited α] {enc : α → Value} {h1 : ∀ x, (enc x).oneCell' = true} {e g n cap base m : Nat} {w : World} {ok : Nat → Prop} {xs ts : List α} {os : Array Obj}
theorem holds_of_R1 (h : (Kd.scalar enc h1).R e w base ok (.slice (some ⟨g, 0, none⟩) n cap) xs) : Holds enc w g 0 xs.toArray ∧ g < w.heap.size ∧ n = xs.length := by
  obtain ⟨hl, hf⟩ := Kd.own_of_R (h1 := h1) h
  rcases hf with ⟨he, _⟩ | ⟨g', cap', cur, he, hb, hh, hn, hc, hz, ht⟩
  · cases he
  injection he with e1 e2 e3
  injection e1 with e1
  injection e1 with e1
  subst e1
  refine ⟨fun j hj => ?_, (Array.getElem?_eq_some_iff.1 hh).1, e2⟩
  have hj' : j < xs.length := by simpa using hj
  refine ⟨?_, by simp [World.frozen?, hh]⟩
  rw [Nat.zero_add, cell_of_row w g j cur e (0, 0) hh, ← Array.getElem?_toList]
  have h2 : cur.toList[j]? = (encs enc xs)[j]? := by
    rw [← ht, List.getElem?_take_of_lt (by omega)]
  rw [h2]
  simp [encs, hj']
theorem R_sorted1 (h : (Kd.scalar enc h1).R e w base ok (.slice (some ⟨g, 0, none⟩) n cap) xs) (hl : ts.length = xs.length) :
    (Kd.scalar enc h1).R e (sortWorld enc w g 0 m ts.toArray os) base ok (.slice (some ⟨g, 0, none⟩) n cap) ts ∧ w.grownBy (sortWorld enc w g 0 m ts.toArray os) (some g) := by
  have hok := h.1
  obtain ⟨hli, hf⟩ := Kd.own_of_R (h1 := h1) h
  rcases hf with ⟨he, _⟩ | ⟨g', cap', cur, he, hb, hh, hn, hc, hz, ht⟩
  · cases he
  injection he with e1 e2 e3
  injection e1 with e1
  injection e1 with e1
  subst e1
  subst e2
  subst e3
  have hg : g < w.heap.size := (Array.getElem?_eq_some_iff.1 hh).1
  have hnew : (sortWorld enc w g 0 m ts.toArray os).heap[g]? = some (.cells (putCells enc 0 ts.toArray cur) e (0, 0)) := by
    unfold sortWorld
    rw [heap_grow_old _ _ (by simpa [putRow, mapBlock, Sort.ahead] using hg)]
    simp [putRow, mapBlock, Sort.ahead, Array.getElem?_modify, hh, onCells]
  refine ⟨Kd.R_of_own (h1 := h1) ⟨by simp [encs], .inr ⟨g, cap, _, by rw [hl], hb, hnew, by omega, hc, by simp [putCells, hz], ?_⟩⟩ hok, rfl, rfl, rfl, ?_, fun k hk' hne => ?_⟩
  · apply List.ext_getElem?
    intro j
    by_cases hj : j < ts.length
    · rw [List.getElem?_take_of_lt (by omega), Array.getElem?_toList]
      have h3 : j < cur.size := by omega
      simp [putCells, encs, hj, h3]
    · rw [List.getElem?_take_eq_none (by omega), List.getElem?_eq_none (by simp [encs]; omega)]
  · simp [sortWorld, putRow, mapBlock, Sort.ahead]
  · unfold sortWorld
    rw [heap_grow_old _ _ (by simpa [putRow, mapBlock, Sort.ahead] using hk')]
    have : g ≠ k := fun e => hne (by rw [e])
    simp [putRow, mapBlock, Sort.ahead, Array.getElem?_modify, this]
/-- Blocks other than the row's stand in every world of the sort. -/
theorem sort_far (d : Array α) (i : Nat) (hi : i < w.heap.size) (hne : i ≠ g) : (sortWorld enc w g 0 m d os).heap[i]? = w.heap[i]? := by
  unfold sortWorld
  rw [heap_grow_old _ _ (by simpa [putRow, mapBlock, Sort.ahead] using hi)]
  have : g ≠ i := fun e => hne e.symm
  simp [putRow, mapBlock, Sort.ahead, Array.getElem?_modify, this]
end
end Go.Proofs.Ytmbbijhppgkdfaa.P14
