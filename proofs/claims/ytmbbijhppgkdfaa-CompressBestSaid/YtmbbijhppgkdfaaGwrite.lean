/- compress.write: a writer that holds the bits of a header. -/
import Derived.Test.YtmbbijhppgkdfaaGcls
namespace Go.Proofs.Ytmbbijhppgkdfaa.P14
open Go.RowKit Go.Proofs.YtmbbijhppgkdfaaW.PrintWords Go.Proofs.YtmbbijhppgkdfaaW.PrintLast Go.Proofs.YtmbbijhppgkdfaaW.PrintMore
attribute [local go_sem] max2_int min2_int max_two min_two max_three min_three max_four min_four
set_option linter.unusedVariables false
set_option linter.unusedSimpArgs false

def headP (cs : List S26) (h : S24) : Nat → List Bool
  | 0 => []
  | 1 => clsB h.f0
  | 2 => clsB h.f0 ++ limB h.f1
  | 3 => clsB h.f0 ++ limB h.f1 ++ addrB cs h.f2
  | 4 => clsB h.f0 ++ limB h.f1 ++ addrB cs h.f2 ++ addrB cs h.f3
  | 5 => clsB h.f0 ++ limB h.f1 ++ addrB cs h.f2 ++ addrB cs h.f3 ++ portsB h.f4 h.f5
  | _ => headB cs h
theorem headP_len (cs : List S26) (h : S24) (ok : okH h) (j : Nat) : (headP cs h j).length ≤ 200 := by
  have h1 := clsB_len h.f0
  have h2 := limB_len h.f1
  have h3 := addrB_len cs h.f2
  have h4 := addrB_len cs h.f3
  have h5 := portsB_len h.f4 h.f5
  have h6 := lenB_len h.f6
  rw [ok.f2] at h3
  rw [ok.f3] at h4
  unfold headP headB
  split <;> (try simp only [List.length_append, List.length_nil]) <;> omega
set_option maxRecDepth 100000 in
set_option maxHeartbeats 3200000 in
theorem write_calls (A : Option Addr) (c : Nat) (cs : List S26) (h : S24) (w : World) (hr : Kd.C k26 w A cs.length cs) (hc : cs.length ≤ c) (h8 : cs.length ≤ 8) (ok : okH h) :
    Calls Try.prog 34 #[.slice A cs.length c, .agg #[.int .i64 h.f0, .int .i64 h.f1, .string h.f2, .string h.f3, .int .i64 h.f4, .int .i64 h.f5, .int .i64 h.f6]] w fun e w' => ∃ p, e = .returned (.pointer (some ⟨p, 0, none⟩)) ∧ w.heap.size ≤ p ∧ Wr w p (headB cs h) w' ∧ Below w.heap.size w w' := by
  have HR := Aside0.mk hr
  have HC := Aside0.mk hc
  have H8 := Aside0.mk h8
  have HO := Aside0.mk ok
  have HB := Aside0.mk (Below.refl w.heap.size w)
  clear hr hc h8 ok
  go_enter Try.func34, Try.ntmps34
  go_wp2_with fail
  generalize hW : ((w.alloc (Obj.cells #[Value.slice A cs.length c] 22)).alloc (Obj.cells #[Value.int IntKind.i64 h.f0, Value.int IntKind.i64 h.f1, Value.string h.f2, Value.string h.f3, Value.int IntKind.i64 h.f4, Value.int IntKind.i64 h.f5, Value.int IntKind.i64 h.f6] 24)) = W
  have hB2 : Below w.heap.size w W := by rw [← hW]; exact below_alloc (below_alloc (Below.refl _ _) _) _
  have hbl : W.heap[w.heap.size]? = some (.cells #[.slice A cs.length c] 22 (0, 0)) := by rw [← hW]; exact blk_alloc (blk_new w _) _
  have hbh : W.heap[w.heap.size + 1]? = some (.cells #[.int .i64 h.f0, .int .i64 h.f1, .string h.f2, .string h.f3, .int .i64 h.f4, .int .i64 h.f5, .int .i64 h.f6] 24 (0, 0)) := by rw [← hW]; have := blk_new (w.alloc (Obj.cells #[Value.slice A cs.length c] 22)) (Obj.cells #[Value.int IntKind.i64 h.f0, Value.int IntKind.i64 h.f1, Value.string h.f2, Value.string h.f3, Value.int IntKind.i64 h.f4, Value.int IntKind.i64 h.f5, Value.int IntKind.i64 h.f6] 24); simpa using this
  have hsz : W.heap.size = w.heap.size + 2 := by rw [← hW]; simp
  refine (new_calls w W hB2).mono ?_
  rintro e w3 ⟨p, rfl, hp, hw3, hb3⟩
  have HW3 := Aside0.mk hw3
  have HE3 := Aside0.mk (below_step hB2 hb3)
  have BL3 := Aside0.mk (blk_below hbl hb3)
  have BH3 := Aside0.mk (blk_below hbh hb3)
  have HP : Aside0 (w.heap.size + 2 ≤ p) := ⟨by omega⟩
  clear hW hB2 hbl hbh hsz hp hw3 hb3 HB W
  obtain ⟨gl, hgl⟩ : ∃ g, g = w.heap.size := ⟨_, rfl⟩
  obtain ⟨gh, hgh⟩ : ∃ g, g = w.heap.size + 1 := ⟨_, rfl⟩
  rw [← hgl] at BL3
  rw [← hgh] at BH3
  have HG := Aside0.mk (And.intro hgl hgh)
  rw [← hgh, ← hgl]
  clear hgl hgh
  go_wp2_with fail
  obtain ⟨gw, hgw⟩ : ∃ g, g = w3.heap.size := ⟨_, rfl⟩
  generalize hW : ((w3.alloc (Obj.cells #[Value.pointer (some { block := p, off := 0 })] 54)).alloc _) = W
  have hB2 : Below w3.heap.size w3 W := by rw [← hW]; exact below_alloc (below_alloc (Below.refl _ _) _) _
  have hbw : W.heap[gw]? = some (.cells #[.pointer (some ⟨p, 0, none⟩)] 54 (0, 0)) := by rw [← hW, hgw]; exact blk_alloc (blk_new w3 _) _
  have hbp : W.heap[gw + 1]? = some (.cells #[.func (Fn.func 59) #[] #[.pointer (some ⟨gw, 0, none⟩), .pointer (some ⟨gh, 0, none⟩)], .func (Fn.func 62) #[] #[.pointer (some ⟨gh, 0, none⟩), .pointer (some ⟨gw, 0, none⟩)], .func (Fn.func 65) #[] #[.pointer (some ⟨gw, 0, none⟩), .pointer (some ⟨gl, 0, none⟩), .pointer (some ⟨gh, 0, none⟩)], .func (Fn.func 67) #[] #[.pointer (some ⟨gw, 0, none⟩), .pointer (some ⟨gl, 0, none⟩), .pointer (some ⟨gh, 0, none⟩)], .func (Fn.func 68) #[] #[.pointer (some ⟨gw, 0, none⟩), .pointer (some ⟨gh, 0, none⟩)], .func (Fn.func 70) #[] #[.pointer (some ⟨gh, 0, none⟩), .pointer (some ⟨gw, 0, none⟩)]] 1 (0, 0)) := by
    rw [← hW, hgw]
    have := blk_new (w3.alloc (Obj.cells #[Value.pointer (some { block := p, off := 0 })] 54)) (Obj.cells #[.func (Fn.func 59) #[] #[.pointer (some ⟨gw, 0, none⟩), .pointer (some ⟨gh, 0, none⟩)], .func (Fn.func 62) #[] #[.pointer (some ⟨gh, 0, none⟩), .pointer (some ⟨gw, 0, none⟩)], .func (Fn.func 65) #[] #[.pointer (some ⟨gw, 0, none⟩), .pointer (some ⟨gl, 0, none⟩), .pointer (some ⟨gh, 0, none⟩)], .func (Fn.func 67) #[] #[.pointer (some ⟨gw, 0, none⟩), .pointer (some ⟨gl, 0, none⟩), .pointer (some ⟨gh, 0, none⟩)], .func (Fn.func 68) #[] #[.pointer (some ⟨gw, 0, none⟩), .pointer (some ⟨gh, 0, none⟩)], .func (Fn.func 70) #[] #[.pointer (some ⟨gh, 0, none⟩), .pointer (some ⟨gw, 0, none⟩)]] 1)
    rw [hgw] at this
    simpa using this
  have BX := Aside0.mk (Bx.mk (cs := cs) (A := A) (c := c) (p := p) hbw (blk_below BL3.out hB2) (blk_below BH3.out hB2))
  have BP := Aside0.mk hbp
  have HW := Aside0.mk (HW3.out.step hB2)
  have HB := Aside0.mk (below_step HE3.out hB2)
  have HP2 : Aside0 (w.heap.size ≤ p) := ⟨by have := HP.out; omega⟩
  rw [← hgw]
  clear hW hB2 hbw hbp hgw HW3 HE3 BL3 BH3 HP w3
  go_loopg [19] 6 (fun gg v19 wr => ∃ (j : Nat), v19 = .int .i64 (j : Int) ∧ Aside0 (j ≤ 6 ∧ 6 - j ≤ gg) ∧ Aside0 (Wr w p (headP cs h j) wr) ∧ Aside0 (Below w.heap.size w wr) ∧ Aside0 (Bx gw gl gh p A c cs h wr) ∧ Aside0 (wr.heap[gw + 1]? = some (.cells #[.func (Fn.func 59) #[] #[.pointer (some ⟨gw, 0, none⟩), .pointer (some ⟨gh, 0, none⟩)], .func (Fn.func 62) #[] #[.pointer (some ⟨gh, 0, none⟩), .pointer (some ⟨gw, 0, none⟩)], .func (Fn.func 65) #[] #[.pointer (some ⟨gw, 0, none⟩), .pointer (some ⟨gl, 0, none⟩), .pointer (some ⟨gh, 0, none⟩)], .func (Fn.func 67) #[] #[.pointer (some ⟨gw, 0, none⟩), .pointer (some ⟨gl, 0, none⟩), .pointer (some ⟨gh, 0, none⟩)], .func (Fn.func 68) #[] #[.pointer (some ⟨gw, 0, none⟩), .pointer (some ⟨gh, 0, none⟩)], .func (Fn.func 70) #[] #[.pointer (some ⟨gh, 0, none⟩), .pointer (some ⟨gw, 0, none⟩)]] 1 (0, 0))))
  case atStart => exact ⟨0, rfl, ⟨by omega, by omega⟩, HW, HB, BX, BP⟩
  case round =>
    clear HW HB BX BP
    obtain ⟨j, rfl, HJ, HW, HB, BX, BP⟩ := hrel
    have HLN := Aside0.mk (headP_len cs h HO.out j)
    obtain ⟨hj1, hj2⟩ := HJ.out
    have hjc : j = 0 ∨ j = 1 ∨ j = 2 ∨ j = 3 ∨ j = 4 ∨ j = 5 ∨ j = 6 := by omega
    rcases hjc with rfl | rfl | rfl | rfl | rfl | rfl | rfl
    · have x0 : wr.cell? ⟨gw + 1, 0, none⟩ = some (.func (Fn.func 59) #[] #[.pointer (some ⟨gw, 0, none⟩), .pointer (some ⟨gh, 0, none⟩)]) := (blk_cell BP.out 0).trans rfl
      have HU := Aside0.mk (part59_calls gw gl gh p c A cs h w wr (headP cs h 0) HP2.out BX.out HW.out HB.out (by have := HLN.out; omega) HO.out)
      go_wp2_with fail
      refine HU.out.mono ?_
      rintro e w5 ⟨rfl, hw5, he5⟩
      have HW5 := Aside0.mk hw5
      have HE5 := Aside0.mk he5
      clear hw5 he5 HU
      go_wp2_with fail
      go_roundg 5
      case measure => omega
      case rel => exact ⟨1, by first | rfl | go_num, ⟨by omega, by omega⟩, ⟨by have := HW5.out; simpa [headP, headB] using this⟩, ⟨HE5.out.below⟩, ⟨BX.out.eff HW.out HE5.out⟩, ⟨HE5.out.keep HW.out BP.out (by decide) (by decide)⟩⟩
    · have x0 : wr.cell? ⟨gw + 1, 1, none⟩ = some (.func (Fn.func 62) #[] #[.pointer (some ⟨gh, 0, none⟩), .pointer (some ⟨gw, 0, none⟩)]) := (blk_cell BP.out 1).trans rfl
      have HU := Aside0.mk (part62_calls gw gl gh p c A cs h w wr (headP cs h 1) HP2.out BX.out HW.out HB.out (by have := HLN.out; omega) HO.out)
      go_wp2_with fail
      refine HU.out.mono ?_
      rintro e w5 ⟨rfl, hw5, he5⟩
      have HW5 := Aside0.mk hw5
      have HE5 := Aside0.mk he5
      clear hw5 he5 HU
      go_wp2_with fail
      go_roundg 4
      case measure => omega
      case rel => exact ⟨2, by first | rfl | go_num, ⟨by omega, by omega⟩, ⟨by have := HW5.out; simpa [headP, headB] using this⟩, ⟨HE5.out.below⟩, ⟨BX.out.eff HW.out HE5.out⟩, ⟨HE5.out.keep HW.out BP.out (by decide) (by decide)⟩⟩
    · have x0 : wr.cell? ⟨gw + 1, 2, none⟩ = some (.func (Fn.func 65) #[] #[.pointer (some ⟨gw, 0, none⟩), .pointer (some ⟨gl, 0, none⟩), .pointer (some ⟨gh, 0, none⟩)]) := (blk_cell BP.out 2).trans rfl
      have HU := Aside0.mk (part65_calls gw gl gh p c A cs h w wr (headP cs h 2) HP2.out BX.out HW.out HB.out (by have := HLN.out; omega) HO.out HR.out HC.out H8.out)
      go_wp2_with fail
      refine HU.out.mono ?_
      rintro e w5 ⟨rfl, hw5, he5⟩
      have HW5 := Aside0.mk hw5
      have HE5 := Aside0.mk he5
      clear hw5 he5 HU
      go_wp2_with fail
      go_roundg 3
      case measure => omega
      case rel => exact ⟨3, by first | rfl | go_num, ⟨by omega, by omega⟩, ⟨by have := HW5.out; simpa [headP, headB] using this⟩, ⟨HE5.out.below⟩, ⟨BX.out.eff HW.out HE5.out⟩, ⟨HE5.out.keep HW.out BP.out (by decide) (by decide)⟩⟩
    · have x0 : wr.cell? ⟨gw + 1, 3, none⟩ = some (.func (Fn.func 67) #[] #[.pointer (some ⟨gw, 0, none⟩), .pointer (some ⟨gl, 0, none⟩), .pointer (some ⟨gh, 0, none⟩)]) := (blk_cell BP.out 3).trans rfl
      have HU := Aside0.mk (part67_calls gw gl gh p c A cs h w wr (headP cs h 3) HP2.out BX.out HW.out HB.out (by have := HLN.out; omega) HO.out HR.out HC.out H8.out)
      go_wp2_with fail
      refine HU.out.mono ?_
      rintro e w5 ⟨rfl, hw5, he5⟩
      have HW5 := Aside0.mk hw5
      have HE5 := Aside0.mk he5
      clear hw5 he5 HU
      go_wp2_with fail
      go_roundg 2
      case measure => omega
      case rel => exact ⟨4, by first | rfl | go_num, ⟨by omega, by omega⟩, ⟨by have := HW5.out; simpa [headP, headB] using this⟩, ⟨HE5.out.below⟩, ⟨BX.out.eff HW.out HE5.out⟩, ⟨HE5.out.keep HW.out BP.out (by decide) (by decide)⟩⟩
    · have x0 : wr.cell? ⟨gw + 1, 4, none⟩ = some (.func (Fn.func 68) #[] #[.pointer (some ⟨gw, 0, none⟩), .pointer (some ⟨gh, 0, none⟩)]) := (blk_cell BP.out 4).trans rfl
      have HU := Aside0.mk (part68_calls gw gl gh p c A cs h w wr (headP cs h 4) HP2.out BX.out HW.out HB.out (by have := HLN.out; omega) HO.out)
      go_wp2_with fail
      refine HU.out.mono ?_
      rintro e w5 ⟨rfl, hw5, he5⟩
      have HW5 := Aside0.mk hw5
      have HE5 := Aside0.mk he5
      clear hw5 he5 HU
      go_wp2_with fail
      go_roundg 1
      case measure => omega
      case rel => exact ⟨5, by first | rfl | go_num, ⟨by omega, by omega⟩, ⟨by have := HW5.out; simpa [headP, headB] using this⟩, ⟨HE5.out.below⟩, ⟨BX.out.eff HW.out HE5.out⟩, ⟨HE5.out.keep HW.out BP.out (by decide) (by decide)⟩⟩
    · have x0 : wr.cell? ⟨gw + 1, 5, none⟩ = some (.func (Fn.func 70) #[] #[.pointer (some ⟨gh, 0, none⟩), .pointer (some ⟨gw, 0, none⟩)]) := (blk_cell BP.out 5).trans rfl
      have HU := Aside0.mk (part70_calls gw gl gh p c A cs h w wr (headP cs h 5) HP2.out BX.out HW.out HB.out (by have := HLN.out; omega) HO.out)
      go_wp2_with fail
      refine HU.out.mono ?_
      rintro e w5 ⟨rfl, hw5, he5⟩
      have HW5 := Aside0.mk hw5
      have HE5 := Aside0.mk he5
      clear hw5 he5 HU
      go_wp2_with fail
      go_roundg 0
      case measure => omega
      case rel => exact ⟨6, by first | rfl | go_num, ⟨by omega, by omega⟩, ⟨by have := HW5.out; simpa [headP, headB] using this⟩, ⟨HE5.out.below⟩, ⟨BX.out.eff HW.out HE5.out⟩, ⟨HE5.out.keep HW.out BP.out (by decide) (by decide)⟩⟩
    · have zw : wr.cell? ⟨gw, 0, none⟩ = some (.pointer (some ⟨p, 0, none⟩)) := (blk_cell BX.out.bw 0).trans rfl
      go_wp2_with fail
      go_ret
      exact ⟨p, rfl, HP2.out, by have := HW.out; simpa [headP] using this, HB.out⟩
end Go.Proofs.Ytmbbijhppgkdfaa.P14
