-- Written by a program of this session (wip/tools) over the kit's print; Lean checks it.
import Derived.Test.YtmbbijhppgkdfaaP14L4h
namespace Go.Proofs.Ytmbbijhppgkdfaa.P14
open Go.RowKit Go.Proofs.YtmbbijhppgkdfaaW.PrintWords Go.Proofs.YtmbbijhppgkdfaaW.PrintLast Go.Proofs.YtmbbijhppgkdfaaW.PrintMore
attribute [local go_sem] max2_int min2_int max_two min_two max_three min_three max_four min_four   -- for this text's walks alone
set_option linter.unusedVariables false
set_option linter.unusedSimpArgs false
set_option maxHeartbeats 8000000 in
set_option maxRecDepth 100000 in
theorem hopmeshlaw14_CompressWrites.calls (k : Nat) (A0 : Option Addr) (c0 : Nat) (l0 : List (S26)) (a1_0 : Int) (a1_1 : Int) (a1_2 : ByteArray) (a1_3 : ByteArray) (a1_4 : Int) (a1_5 : Int) (a1_6 : Int) (r : Bool) (w : World) (hr0 : Kd.C k26 w A0 l0.length l0) (hc0 : l0.length ≤ c0) (h : hopmeshlaw14_CompressWrites.f k l0 a1_0 a1_1 a1_2 a1_3 a1_4 a1_5 a1_6 = some r) :
  Calls Try.prog 4 #[.slice A0 l0.length c0, .agg #[.int .i64 a1_0, .int .i64 a1_1, .string a1_2, .string a1_3, .int .i64 a1_4, .int .i64 a1_5, .int .i64 a1_6]] w fun e w' => e = .returned (.bool r) ∧ Below w.heap.size w w' := by
 have hu24 := Try.underlying24
 have HR0 := Aside0.mk hr0
 have HC0 := Aside0.mk hc0
 clear hr0 hc0
 have HB := Aside0.mk (Below.refl w.heap.size w)
 have H : ((hopmeshlaw14_awake.f k).bind fun t160 => (if t160 = true then ((hopmeshlaw14_few.f l0).bind fun t161 => (if t161 = true then ((hopmeshlaw14_short.f a1_0 a1_1 a1_2 a1_3 a1_4 a1_5 a1_6).bind fun t162 => (hopmeshlaw14_CompressWrites.j0 k l0 (!t162) a1_0 a1_1 a1_2 a1_3 a1_4 a1_5 a1_6)) else (hopmeshlaw14_CompressWrites.j0 k l0 true a1_0 a1_1 a1_2 a1_3 a1_4 a1_5 a1_6))) else (some false))) = some r := h
 clear h
 replace H := Option.bind_eq_some_iff.mp H
 obtain ⟨t160, A30, H⟩ := H
 replace H : (if t160 = true then ((hopmeshlaw14_few.f l0).bind fun t161 => (if t161 = true then ((hopmeshlaw14_short.f a1_0 a1_1 a1_2 a1_3 a1_4 a1_5 a1_6).bind fun t162 => (hopmeshlaw14_CompressWrites.j0 k l0 (!t162) a1_0 a1_1 a1_2 a1_3 a1_4 a1_5 a1_6)) else (hopmeshlaw14_CompressWrites.j0 k l0 true a1_0 a1_1 a1_2 a1_3 a1_4 a1_5 a1_6))) else (some false)) = some r := H
 have A3 := Aside0.mk A30
 clear A30
 by_cases c4 : t160 = true
 ·
  subst c4
  have H1 : ((hopmeshlaw14_few.f l0).bind fun t161 => (if t161 = true then ((hopmeshlaw14_short.f a1_0 a1_1 a1_2 a1_3 a1_4 a1_5 a1_6).bind fun t162 => (hopmeshlaw14_CompressWrites.j0 k l0 (!t162) a1_0 a1_1 a1_2 a1_3 a1_4 a1_5 a1_6)) else (hopmeshlaw14_CompressWrites.j0 k l0 true a1_0 a1_1 a1_2 a1_3 a1_4 a1_5 a1_6))) = some r := by rw [if_pos rfl] at H; exact H
  clear H
  have H := H1
  clear H1
  have HC5 := Aside0.mk H
  clear H
  go_enter Try.func4, Try.ntmps4
  go_upto_region 3 with (first | ((with_reducible refine gate_dst (N := 3) rfl ?_); refine bx_ 3 #[.int .i64 a1_0, .int .i64 a1_1, .string a1_2, .string a1_3, .int .i64 a1_4, .int .i64 a1_5, .int .i64 a1_6] 24 ?_; intro gb159 hg w6 hbox hb; have n0_ := Aside0.mk (below_step hb_ hb); have n1_ := Aside0.mk (hbox); have n2_ := Aside0.mk ((by rw [hg]; exact (below_size hb_) : w.heap.size ≤ gb159)); have n3_ := Aside0.mk ((by rw [hg]; exact (below_size hb_) : w.heap.size ≤ gb159)); clear HB; have HB := n0_; have BK159 := n1_; have GW159 := n2_; have GE159 := n3_; clear n0_ n1_ n2_ n3_; clear hb hbox hg) | ((with_reducible refine gate_callee (f := 10) rfl ?_); refine goesL_ (some 17) rfl rfl Try.func10 (by kernel_rfl) rfl #[] rfl am_ ?_; (with_reducible refine (hopmeshlaw14_awake.calls k  true _ A3.out).mono ?_); rintro e w7 ⟨rfl, hb⟩; refine ⟨_, rfl, ?_⟩; have n0_ := bk_ BK159 hb; have n1_ := Aside0.mk (below_step hb_ hb); clear BK159; clear HB; have BK159 := n0_; have HB := n1_; clear n0_ n1_; (try clear hb); (try clear hb2); (try clear hk); (try clear hi)))
  (try simp only [Act.put, List.setIfInBounds_toArray, List.set_cons_zero, List.set_cons_succ])
  go_cut [26] (fun v26 wc => ∃ (kq : Nat) (x26_4 : Bool), v26 = .bool x26_4 ∧ Aside0 (hopmeshlaw14_CompressWrites.j0 kq l0 x26_4 a1_0 a1_1 a1_2 a1_3 a1_4 a1_5 a1_6 = some r) ∧ Aside0 (kq ≤ k) ∧ Aside0 (wc.heap[gb159]? = some (.cells #[.int .i64 a1_0, .int .i64 a1_1, .string a1_2, .string a1_3, .int .i64 a1_4, .int .i64 a1_5, .int .i64 a1_6] 24 (0, 0))) ∧ Aside0 (Below w.heap.size w wc))
  case first =>
   have H := HC5.out
   clear HC5
   replace H := Option.bind_eq_some_iff.mp H
   obtain ⟨t161, A80, H⟩ := H
   replace H : (if t161 = true then ((hopmeshlaw14_short.f a1_0 a1_1 a1_2 a1_3 a1_4 a1_5 a1_6).bind fun t162 => (hopmeshlaw14_CompressWrites.j0 k l0 (!t162) a1_0 a1_1 a1_2 a1_3 a1_4 a1_5 a1_6)) else (hopmeshlaw14_CompressWrites.j0 k l0 true a1_0 a1_1 a1_2 a1_3 a1_4 a1_5 a1_6)) = some r := H
   have A8 := Aside0.mk A80
   clear A80
   by_cases c9 : t161 = true
   ·
    subst c9
    have H1 : ((hopmeshlaw14_short.f a1_0 a1_1 a1_2 a1_3 a1_4 a1_5 a1_6).bind fun t162 => (hopmeshlaw14_CompressWrites.j0 k l0 (!t162) a1_0 a1_1 a1_2 a1_3 a1_4 a1_5 a1_6)) = some r := by rw [if_pos rfl] at H; exact H
    clear H
    have H := H1
    clear H1
    replace H := Option.bind_eq_some_iff.mp H
    obtain ⟨t162, A100, H⟩ := H
    replace H : (hopmeshlaw14_CompressWrites.j0 k l0 (!t162) a1_0 a1_1 a1_2 a1_3 a1_4 a1_5 a1_6) = some r := H
    have A10 := Aside0.mk A100
    clear A100
    have H' := Aside0.mk H
    clear H
    go_wp2_with (first | ((with_reducible refine gate_callee (f := 11) rfl ?_); refine goesL_ (some 20) rfl rfl Try.func11 (by kernel_rfl) rfl #[.slice A0 l0.length c0] rfl am_ ?_; (with_reducible refine (hopmeshlaw14_few.calls _ _ l0 true _ ?side1 ?side2 A8.out).mono ?_); (case side1 => repeat (first | exact (Kd.C_below HR0.out HB.out) | (with_reducible refine Kd.C_alloc ?_ _) | (with_reducible refine Kd.C_drewN ?_ _) | (with_reducible refine Kd.C_drew ?_))); (case side2 => exact HC0.out); rintro e w11 ⟨rfl, hb⟩; refine ⟨_, rfl, ?_⟩; have n0_ := bk_ BK159 hb; have n1_ := Aside0.mk (below_step hb_ hb); clear BK159; clear HB; have BK159 := n0_; have HB := n1_; clear n0_ n1_; (try clear hb); (try clear hb2); (try clear hk); (try clear hi); have hcz12_0 := bc0 BK159; have hcz12_1 := bc1 BK159; have hcz12_2 := bc2 BK159; have hcz12_3 := bc3 BK159; have hcz12_4 := bc4 BK159; have hcz12_5 := bc5 BK159; have hcz12_6 := bc6 BK159; have hfz12_0 := blk_frozen BK159.out 0; have hfz12_1 := blk_frozen BK159.out 1; have hfz12_2 := blk_frozen BK159.out 2; have hfz12_3 := blk_frozen BK159.out 3; have hfz12_4 := blk_frozen BK159.out 4; have hfz12_5 := blk_frozen BK159.out 5; have hfz12_6 := blk_frozen BK159.out 6) | (go_at_call 12; (with_reducible refine (hopmeshlaw14_short.calls a1_0 a1_1 a1_2 a1_3 a1_4 a1_5 a1_6 t162 _ A10.out).mono ?_); rintro e w13 ⟨rfl, hb⟩; have n0_ := bk_ BK159 hb; have n1_ := Aside0.mk (below_step hb_ hb); clear BK159; clear HB; have BK159 := n0_; have HB := n1_; clear n0_ n1_; (try clear hb); (try clear hb2); (try clear hk); (try clear hi)))
    go_meet
    case rel => exact ⟨_, (!t162), rl_, H', ⟨by first | omega | exact Nat.le_refl _⟩, ⟨bj_ BK159⟩, ⟨hb_⟩⟩
   ·
    replace c9 := Bool.eq_false_iff.mpr c9
    subst c9
    have H1 : (hopmeshlaw14_CompressWrites.j0 k l0 true a1_0 a1_1 a1_2 a1_3 a1_4 a1_5 a1_6) = some r := by rw [if_neg (show ¬ (false = true) by decide)] at H; exact H
    clear H
    have H := H1
    clear H1
    have H' := Aside0.mk H
    clear H
    go_wp2_with (first | ((with_reducible refine gate_callee (f := 11) rfl ?_); refine goesL_ (some 20) rfl rfl Try.func11 (by kernel_rfl) rfl #[.slice A0 l0.length c0] rfl am_ ?_; (with_reducible refine (hopmeshlaw14_few.calls _ _ l0 false _ ?side1 ?side2 A8.out).mono ?_); (case side1 => repeat (first | exact (Kd.C_below HR0.out HB.out) | (with_reducible refine Kd.C_alloc ?_ _) | (with_reducible refine Kd.C_drewN ?_ _) | (with_reducible refine Kd.C_drew ?_))); (case side2 => exact HC0.out); rintro e w14 ⟨rfl, hb⟩; refine ⟨_, rfl, ?_⟩; have n0_ := bk_ BK159 hb; have n1_ := Aside0.mk (below_step hb_ hb); clear BK159; clear HB; have BK159 := n0_; have HB := n1_; clear n0_ n1_; (try clear hb); (try clear hb2); (try clear hk); (try clear hi)))
    go_meet
    case rel => exact ⟨_, (true), rl_, H', ⟨by first | omega | exact Nat.le_refl _⟩, ⟨bj_ BK159⟩, ⟨hb_⟩⟩
  case rest =>
   clear HC5
   try clear c1; try clear p2; try clear c4; try clear c9; try clear c10; try clear c11; try clear hcz12_0; try clear hcz12_1; try clear hcz12_2; try clear hcz12_3; try clear hcz12_4; try clear hcz12_5; try clear hcz12_6; try clear hfz12_0; try clear hfz12_1; try clear hfz12_2; try clear hfz12_3; try clear hfz12_4; try clear hfz12_5; try clear hfz12_6
   (repeat clear BK159); (repeat clear HB)
   obtain ⟨kq, x26_4, rfl, HA, HJ4, BK159, HB⟩ := hcut
   cases kq with
   | zero => exact absurd HA.out (by simp [hopmeshlaw14_CompressWrites.j0])
   | succ kj4 =>
    have H := HA.out
    clear HA
    simp only [hopmeshlaw14_CompressWrites.j0] at H
    by_cases c15 : x26_4 = true
    ·
     subst c15
     have H1 : (some true) = some r := by rw [if_pos rfl] at H; exact H
     clear H
     have H := H1
     clear H1
     obtain rfl := Option.some.inj H
     go_wp2
     go_ret
     exact ⟨er_, hb_⟩
    ·
     replace c15 := Bool.eq_false_iff.mpr c15
     subst c15
     have H1 : ((api_Context.f l0).bind fun t163 => ((compress_Find.f kj4 t163 a1_2).bind fun bt166 => ((hopmeshref14_Find.f kj4 l0 a1_2).bind fun bt168 => ((api_Context.f l0).bind fun t170 => ((compress_Compress.f t170 a1_0 a1_1 a1_2 a1_3 a1_4 a1_5 a1_6).bind fun bt173 => ((hopmeshref14_Compress.f l0 a1_0 a1_1 a1_2 a1_3 a1_4 a1_5 a1_6).bind fun bt175 => ((api_Context.f l0).bind fun t177 => ((compress_Bits.f t177 a1_0 a1_1 a1_2 a1_3 a1_4 a1_5 a1_6).bind fun bt180 => ((hopmeshref14_Bits.f l0 a1_0 a1_1 a1_2 a1_3 a1_4 a1_5 a1_6).bind fun bt182 => ((compress_Check.f kj4 a1_0 a1_1 a1_2 a1_3 a1_4 a1_5 a1_6).bind fun t184 => ((hopmeshref14_Check.f kj4 a1_0 a1_1 a1_2 a1_3 a1_4 a1_5 a1_6).bind fun t185 => (if t184 = t185 then ((api_Context.f l0).bind fun t186 => ((compress_Contexts.f t186).bind fun t189 => ((hopmeshref14_Contexts.f kj4 l0).bind fun t190 => (if t189 = t190 then (if bt166.1 = bt168.1 then (if (bt166.2 == bt168.2) = true then (if bt173.1.toList = bt175.1.toList then (if bt173.2 = bt175.2 then (if bt180.1 = bt182.1 then (some (bt180.2 == bt182.2)) else (some false)) else (some false)) else (some false)) else (some false)) else (some false)) else (some false))))) else (some false))))))))))))) = some r := by rw [if_neg (show ¬ (false = true) by decide)] at H; exact H
     clear H
     have H := H1
     clear H1
     replace H := Option.bind_eq_some_iff.mp H
     obtain ⟨t163, A160, H⟩ := H
     replace H : ((compress_Find.f kj4 t163 a1_2).bind fun bt166 => ((hopmeshref14_Find.f kj4 l0 a1_2).bind fun bt168 => ((api_Context.f l0).bind fun t170 => ((compress_Compress.f t170 a1_0 a1_1 a1_2 a1_3 a1_4 a1_5 a1_6).bind fun bt173 => ((hopmeshref14_Compress.f l0 a1_0 a1_1 a1_2 a1_3 a1_4 a1_5 a1_6).bind fun bt175 => ((api_Context.f l0).bind fun t177 => ((compress_Bits.f t177 a1_0 a1_1 a1_2 a1_3 a1_4 a1_5 a1_6).bind fun bt180 => ((hopmeshref14_Bits.f l0 a1_0 a1_1 a1_2 a1_3 a1_4 a1_5 a1_6).bind fun bt182 => ((compress_Check.f kj4 a1_0 a1_1 a1_2 a1_3 a1_4 a1_5 a1_6).bind fun t184 => ((hopmeshref14_Check.f kj4 a1_0 a1_1 a1_2 a1_3 a1_4 a1_5 a1_6).bind fun t185 => (if t184 = t185 then ((api_Context.f l0).bind fun t186 => ((compress_Contexts.f t186).bind fun t189 => ((hopmeshref14_Contexts.f kj4 l0).bind fun t190 => (if t189 = t190 then (if bt166.1 = bt168.1 then (if (bt166.2 == bt168.2) = true then (if bt173.1.toList = bt175.1.toList then (if bt173.2 = bt175.2 then (if bt180.1 = bt182.1 then (some (bt180.2 == bt182.2)) else (some false)) else (some false)) else (some false)) else (some false)) else (some false)) else (some false))))) else (some false)))))))))))) = some r := H
     have A16 := Aside0.mk A160
     clear A160
     replace H := Option.bind_eq_some_iff.mp H
     obtain ⟨⟨t166, t167⟩, A170, H⟩ := H
     replace H : ((hopmeshref14_Find.f kj4 l0 a1_2).bind fun bt168 => ((api_Context.f l0).bind fun t170 => ((compress_Compress.f t170 a1_0 a1_1 a1_2 a1_3 a1_4 a1_5 a1_6).bind fun bt173 => ((hopmeshref14_Compress.f l0 a1_0 a1_1 a1_2 a1_3 a1_4 a1_5 a1_6).bind fun bt175 => ((api_Context.f l0).bind fun t177 => ((compress_Bits.f t177 a1_0 a1_1 a1_2 a1_3 a1_4 a1_5 a1_6).bind fun bt180 => ((hopmeshref14_Bits.f l0 a1_0 a1_1 a1_2 a1_3 a1_4 a1_5 a1_6).bind fun bt182 => ((compress_Check.f kj4 a1_0 a1_1 a1_2 a1_3 a1_4 a1_5 a1_6).bind fun t184 => ((hopmeshref14_Check.f kj4 a1_0 a1_1 a1_2 a1_3 a1_4 a1_5 a1_6).bind fun t185 => (if t184 = t185 then ((api_Context.f l0).bind fun t186 => ((compress_Contexts.f t186).bind fun t189 => ((hopmeshref14_Contexts.f kj4 l0).bind fun t190 => (if t189 = t190 then (if t166 = bt168.1 then (if (t167 == bt168.2) = true then (if bt173.1.toList = bt175.1.toList then (if bt173.2 = bt175.2 then (if bt180.1 = bt182.1 then (some (bt180.2 == bt182.2)) else (some false)) else (some false)) else (some false)) else (some false)) else (some false)) else (some false))))) else (some false))))))))))) = some r := H
     have A17 := Aside0.mk A170
     clear A170
     replace H := Option.bind_eq_some_iff.mp H
     obtain ⟨⟨t168, t169⟩, A180, H⟩ := H
     replace H : ((api_Context.f l0).bind fun t170 => ((compress_Compress.f t170 a1_0 a1_1 a1_2 a1_3 a1_4 a1_5 a1_6).bind fun bt173 => ((hopmeshref14_Compress.f l0 a1_0 a1_1 a1_2 a1_3 a1_4 a1_5 a1_6).bind fun bt175 => ((api_Context.f l0).bind fun t177 => ((compress_Bits.f t177 a1_0 a1_1 a1_2 a1_3 a1_4 a1_5 a1_6).bind fun bt180 => ((hopmeshref14_Bits.f l0 a1_0 a1_1 a1_2 a1_3 a1_4 a1_5 a1_6).bind fun bt182 => ((compress_Check.f kj4 a1_0 a1_1 a1_2 a1_3 a1_4 a1_5 a1_6).bind fun t184 => ((hopmeshref14_Check.f kj4 a1_0 a1_1 a1_2 a1_3 a1_4 a1_5 a1_6).bind fun t185 => (if t184 = t185 then ((api_Context.f l0).bind fun t186 => ((compress_Contexts.f t186).bind fun t189 => ((hopmeshref14_Contexts.f kj4 l0).bind fun t190 => (if t189 = t190 then (if t166 = t168 then (if (t167 == t169) = true then (if bt173.1.toList = bt175.1.toList then (if bt173.2 = bt175.2 then (if bt180.1 = bt182.1 then (some (bt180.2 == bt182.2)) else (some false)) else (some false)) else (some false)) else (some false)) else (some false)) else (some false))))) else (some false)))))))))) = some r := H
     have A18 := Aside0.mk A180
     clear A180
     replace H := Option.bind_eq_some_iff.mp H
     obtain ⟨t170, A190, H⟩ := H
     replace H : ((compress_Compress.f t170 a1_0 a1_1 a1_2 a1_3 a1_4 a1_5 a1_6).bind fun bt173 => ((hopmeshref14_Compress.f l0 a1_0 a1_1 a1_2 a1_3 a1_4 a1_5 a1_6).bind fun bt175 => ((api_Context.f l0).bind fun t177 => ((compress_Bits.f t177 a1_0 a1_1 a1_2 a1_3 a1_4 a1_5 a1_6).bind fun bt180 => ((hopmeshref14_Bits.f l0 a1_0 a1_1 a1_2 a1_3 a1_4 a1_5 a1_6).bind fun bt182 => ((compress_Check.f kj4 a1_0 a1_1 a1_2 a1_3 a1_4 a1_5 a1_6).bind fun t184 => ((hopmeshref14_Check.f kj4 a1_0 a1_1 a1_2 a1_3 a1_4 a1_5 a1_6).bind fun t185 => (if t184 = t185 then ((api_Context.f l0).bind fun t186 => ((compress_Contexts.f t186).bind fun t189 => ((hopmeshref14_Contexts.f kj4 l0).bind fun t190 => (if t189 = t190 then (if t166 = t168 then (if (t167 == t169) = true then (if bt173.1.toList = bt175.1.toList then (if bt173.2 = bt175.2 then (if bt180.1 = bt182.1 then (some (bt180.2 == bt182.2)) else (some false)) else (some false)) else (some false)) else (some false)) else (some false)) else (some false))))) else (some false))))))))) = some r := H
     have A19 := Aside0.mk A190
     clear A190
     replace H := Option.bind_eq_some_iff.mp H
     obtain ⟨⟨t173, t174⟩, A200, H⟩ := H
     replace H : ((hopmeshref14_Compress.f l0 a1_0 a1_1 a1_2 a1_3 a1_4 a1_5 a1_6).bind fun bt175 => ((api_Context.f l0).bind fun t177 => ((compress_Bits.f t177 a1_0 a1_1 a1_2 a1_3 a1_4 a1_5 a1_6).bind fun bt180 => ((hopmeshref14_Bits.f l0 a1_0 a1_1 a1_2 a1_3 a1_4 a1_5 a1_6).bind fun bt182 => ((compress_Check.f kj4 a1_0 a1_1 a1_2 a1_3 a1_4 a1_5 a1_6).bind fun t184 => ((hopmeshref14_Check.f kj4 a1_0 a1_1 a1_2 a1_3 a1_4 a1_5 a1_6).bind fun t185 => (if t184 = t185 then ((api_Context.f l0).bind fun t186 => ((compress_Contexts.f t186).bind fun t189 => ((hopmeshref14_Contexts.f kj4 l0).bind fun t190 => (if t189 = t190 then (if t166 = t168 then (if (t167 == t169) = true then (if t173.toList = bt175.1.toList then (if t174 = bt175.2 then (if bt180.1 = bt182.1 then (some (bt180.2 == bt182.2)) else (some false)) else (some false)) else (some false)) else (some false)) else (some false)) else (some false))))) else (some false)))))))) = some r := H
     have A20 := Aside0.mk A200
     clear A200
     replace H := Option.bind_eq_some_iff.mp H
     obtain ⟨⟨t175, t176⟩, A210, H⟩ := H
     replace H : ((api_Context.f l0).bind fun t177 => ((compress_Bits.f t177 a1_0 a1_1 a1_2 a1_3 a1_4 a1_5 a1_6).bind fun bt180 => ((hopmeshref14_Bits.f l0 a1_0 a1_1 a1_2 a1_3 a1_4 a1_5 a1_6).bind fun bt182 => ((compress_Check.f kj4 a1_0 a1_1 a1_2 a1_3 a1_4 a1_5 a1_6).bind fun t184 => ((hopmeshref14_Check.f kj4 a1_0 a1_1 a1_2 a1_3 a1_4 a1_5 a1_6).bind fun t185 => (if t184 = t185 then ((api_Context.f l0).bind fun t186 => ((compress_Contexts.f t186).bind fun t189 => ((hopmeshref14_Contexts.f kj4 l0).bind fun t190 => (if t189 = t190 then (if t166 = t168 then (if (t167 == t169) = true then (if t173.toList = t175.toList then (if t174 = t176 then (if bt180.1 = bt182.1 then (some (bt180.2 == bt182.2)) else (some false)) else (some false)) else (some false)) else (some false)) else (some false)) else (some false))))) else (some false))))))) = some r := H
     have A21 := Aside0.mk A210
     clear A210
     replace H := Option.bind_eq_some_iff.mp H
     obtain ⟨t177, A220, H⟩ := H
     replace H : ((compress_Bits.f t177 a1_0 a1_1 a1_2 a1_3 a1_4 a1_5 a1_6).bind fun bt180 => ((hopmeshref14_Bits.f l0 a1_0 a1_1 a1_2 a1_3 a1_4 a1_5 a1_6).bind fun bt182 => ((compress_Check.f kj4 a1_0 a1_1 a1_2 a1_3 a1_4 a1_5 a1_6).bind fun t184 => ((hopmeshref14_Check.f kj4 a1_0 a1_1 a1_2 a1_3 a1_4 a1_5 a1_6).bind fun t185 => (if t184 = t185 then ((api_Context.f l0).bind fun t186 => ((compress_Contexts.f t186).bind fun t189 => ((hopmeshref14_Contexts.f kj4 l0).bind fun t190 => (if t189 = t190 then (if t166 = t168 then (if (t167 == t169) = true then (if t173.toList = t175.toList then (if t174 = t176 then (if bt180.1 = bt182.1 then (some (bt180.2 == bt182.2)) else (some false)) else (some false)) else (some false)) else (some false)) else (some false)) else (some false))))) else (some false)))))) = some r := H
     have A22 := Aside0.mk A220
     clear A220
     replace H := Option.bind_eq_some_iff.mp H
     obtain ⟨⟨t180, t181⟩, A230, H⟩ := H
     replace H : ((hopmeshref14_Bits.f l0 a1_0 a1_1 a1_2 a1_3 a1_4 a1_5 a1_6).bind fun bt182 => ((compress_Check.f kj4 a1_0 a1_1 a1_2 a1_3 a1_4 a1_5 a1_6).bind fun t184 => ((hopmeshref14_Check.f kj4 a1_0 a1_1 a1_2 a1_3 a1_4 a1_5 a1_6).bind fun t185 => (if t184 = t185 then ((api_Context.f l0).bind fun t186 => ((compress_Contexts.f t186).bind fun t189 => ((hopmeshref14_Contexts.f kj4 l0).bind fun t190 => (if t189 = t190 then (if t166 = t168 then (if (t167 == t169) = true then (if t173.toList = t175.toList then (if t174 = t176 then (if t180 = bt182.1 then (some (t181 == bt182.2)) else (some false)) else (some false)) else (some false)) else (some false)) else (some false)) else (some false))))) else (some false))))) = some r := H
     have A23 := Aside0.mk A230
     clear A230
     replace H := Option.bind_eq_some_iff.mp H
     obtain ⟨⟨t182, t183⟩, A240, H⟩ := H
     replace H : ((compress_Check.f kj4 a1_0 a1_1 a1_2 a1_3 a1_4 a1_5 a1_6).bind fun t184 => ((hopmeshref14_Check.f kj4 a1_0 a1_1 a1_2 a1_3 a1_4 a1_5 a1_6).bind fun t185 => (if t184 = t185 then ((api_Context.f l0).bind fun t186 => ((compress_Contexts.f t186).bind fun t189 => ((hopmeshref14_Contexts.f kj4 l0).bind fun t190 => (if t189 = t190 then (if t166 = t168 then (if (t167 == t169) = true then (if t173.toList = t175.toList then (if t174 = t176 then (if t180 = t182 then (some (t181 == t183)) else (some false)) else (some false)) else (some false)) else (some false)) else (some false)) else (some false))))) else (some false)))) = some r := H
     have A24 := Aside0.mk A240
     clear A240
     replace H := Option.bind_eq_some_iff.mp H
     obtain ⟨t184, A250, H⟩ := H
     replace H : ((hopmeshref14_Check.f kj4 a1_0 a1_1 a1_2 a1_3 a1_4 a1_5 a1_6).bind fun t185 => (if t184 = t185 then ((api_Context.f l0).bind fun t186 => ((compress_Contexts.f t186).bind fun t189 => ((hopmeshref14_Contexts.f kj4 l0).bind fun t190 => (if t189 = t190 then (if t166 = t168 then (if (t167 == t169) = true then (if t173.toList = t175.toList then (if t174 = t176 then (if t180 = t182 then (some (t181 == t183)) else (some false)) else (some false)) else (some false)) else (some false)) else (some false)) else (some false))))) else (some false))) = some r := H
     have A25 := Aside0.mk A250
     clear A250
     replace H := Option.bind_eq_some_iff.mp H
     obtain ⟨t185, A260, H⟩ := H
     replace H : (if t184 = t185 then ((api_Context.f l0).bind fun t186 => ((compress_Contexts.f t186).bind fun t189 => ((hopmeshref14_Contexts.f kj4 l0).bind fun t190 => (if t189 = t190 then (if t166 = t168 then (if (t167 == t169) = true then (if t173.toList = t175.toList then (if t174 = t176 then (if t180 = t182 then (some (t181 == t183)) else (some false)) else (some false)) else (some false)) else (some false)) else (some false)) else (some false))))) else (some false)) = some r := H
     have A26 := Aside0.mk A260
     clear A260
     by_cases c27 : t184 = t185
     ·
      rw [if_pos c27] at H
      have c27b0 : (t184 == t185) = true := beq_iff_eq.mpr c27
      have c27b1 : (t184 != t185) = false := bne_eq_false_iff_eq.mpr c27
      clear c27
      replace H := Option.bind_eq_some_iff.mp H
      obtain ⟨t186, A280, H⟩ := H
      replace H : ((compress_Contexts.f t186).bind fun t189 => ((hopmeshref14_Contexts.f kj4 l0).bind fun t190 => (if t189 = t190 then (if t166 = t168 then (if (t167 == t169) = true then (if t173.toList = t175.toList then (if t174 = t176 then (if t180 = t182 then (some (t181 == t183)) else (some false)) else (some false)) else (some false)) else (some false)) else (some false)) else (some false)))) = some r := H
      have A28 := Aside0.mk A280
      clear A280
      replace H := Option.bind_eq_some_iff.mp H
      obtain ⟨t189, A290, H⟩ := H
      replace H : ((hopmeshref14_Contexts.f kj4 l0).bind fun t190 => (if t189 = t190 then (if t166 = t168 then (if (t167 == t169) = true then (if t173.toList = t175.toList then (if t174 = t176 then (if t180 = t182 then (some (t181 == t183)) else (some false)) else (some false)) else (some false)) else (some false)) else (some false)) else (some false))) = some r := H
      have A29 := Aside0.mk A290
      clear A290
      replace H := Option.bind_eq_some_iff.mp H
      obtain ⟨t190, A300, H⟩ := H
      replace H : (if t189 = t190 then (if t166 = t168 then (if (t167 == t169) = true then (if t173.toList = t175.toList then (if t174 = t176 then (if t180 = t182 then (some (t181 == t183)) else (some false)) else (some false)) else (some false)) else (some false)) else (some false)) else (some false)) = some r := H
      have A30 := Aside0.mk A300
      clear A300
      by_cases c31 : t189 = t190
      ·
       rw [if_pos c31] at H
       have c31b0 : (t189 == t190) = true := beq_iff_eq.mpr c31
       have c31b1 : (t189 != t190) = false := bne_eq_false_iff_eq.mpr c31
       clear c31
       by_cases c32 : t166 = t168
       ·
        rw [if_pos c32] at H
        have c32b0 : (t166 == t168) = true := beq_iff_eq.mpr c32
        have c32b1 : (t166 != t168) = false := bne_eq_false_iff_eq.mpr c32
        clear c32
        by_cases c33 : (t167 == t169) = true
        ·
         rw [if_pos c33] at H
         have c33b0 : (t167 == t169) = true := c33
         (try (have c33b1 : decide (t167 = t169) = true := by simpa using c33))
         (try (have c33b2 : (t167 == t169) = true := by simpa using c33))
         clear c33
         by_cases c34 : t173.toList = t175.toList
         ·
          rw [if_pos c34] at H
          have c34b0 : (t173.toList == t175.toList) = true := beq_iff_eq.mpr c34
          have c34b1 : (t173.toList != t175.toList) = false := bne_eq_false_iff_eq.mpr c34
          clear c34
          by_cases c35 : t174 = t176
          ·
           rw [if_pos c35] at H
           have c35b0 : (t174 == t176) = true := beq_iff_eq.mpr c35
           have c35b1 : (t174 != t176) = false := bne_eq_false_iff_eq.mpr c35
           clear c35
           by_cases c36 : t180 = t182
           ·
            rw [if_pos c36] at H
            have c36b0 : (t180 == t182) = true := beq_iff_eq.mpr c36
            have c36b1 : (t180 != t182) = false := bne_eq_false_iff_eq.mpr c36
            clear c36
            obtain rfl := Option.some.inj H
            try go_wp2
            have n0_ := Aside0.mk (blk_drew BK159.out)
            have n1_ := Aside0.mk (below_drew1 HB.out)
            clear BK159
            clear HB
            have BK159 := n0_
            have HB := n1_
            clear n0_ n1_
            refine start_ (n := 10) (S := fun w' => w'.cell? ⟨gb159, 0, none⟩ = some (.int .i64 a1_0) ∧ w'.cell? ⟨gb159, 1, none⟩ = some (.int .i64 a1_1) ∧ w'.cell? ⟨gb159, 2, none⟩ = some (.string a1_2) ∧ w'.cell? ⟨gb159, 3, none⟩ = some (.string a1_3) ∧ w'.cell? ⟨gb159, 4, none⟩ = some (.int .i64 a1_4) ∧ w'.cell? ⟨gb159, 5, none⟩ = some (.int .i64 a1_5) ∧ w'.cell? ⟨gb159, 6, none⟩ = some (.int .i64 a1_6)) (ds := []) #[false, false, false, false, false, false, false, false, false, false] (by kernel_rfl) rfl rfl ⟨(blk_cell BK159.out 0).trans rfl, (blk_cell BK159.out 1).trans rfl, (blk_cell BK159.out 2).trans rfl, (blk_cell BK159.out 3).trans rfl, (blk_cell BK159.out 4).trans rfl, (blk_cell BK159.out 5).trans rfl, (blk_cell BK159.out 6).trans rfl⟩ (fun hHeld => ?_); refine with_tabW hopmeshlaw14_CompressWrites.tab5 hopmeshlaw14_CompressWrites.bits5 (fun HT_ HW_ => ?_)
            generalize wc.drew = w37 at BK159 HB hHeld ⊢
            refine pu_ HT_ 0 28 (bl 10 1) ?_
            refine pu_ HT_ 2 30 (bl 10 5) ?_
            refine tk_ HT_ HW_ hHeld 3 31 (bl 10 13) ?_
            refine one_ (i := 1) (N := some 29) (bl 10 15) rfl rfl (one_of HT_.out (by kernel_rfl)) (by decide) (fun K hK => ?_)
            refine goes_ Try.func14 (by kernel_rfl) rfl #[.slice A0 l0.length c0] (by rfl) rfl rfl am_ ?_
            with_reducible refine (api_Context.calls _ _ l0 t163 _ ?side1 ?side2 A16.out).mono ?_
            (case side1 => repeat (first | exact (Kd.C_below HR0.out HB.out) | (with_reducible refine Kd.C_alloc ?_ _) | (with_reducible refine Kd.C_drewN ?_ _) | (with_reducible refine Kd.C_drew ?_)))
            (case side2 => exact HC0.out)
            rintro e w38 ⟨v164, rfl, ho0, hb⟩
            refine ⟨_, rfl, ?_⟩
            have n0_ := Aside0.mk (Kd.R_lower ho0 (below_size hb_))
            have n1_ := bk_ BK159 hb
            have n2_ := Aside0.mk (below_step hb_ hb)
            clear BK159
            clear HB
            have HO165 := n0_
            have BK159 := n1_
            have HB := n2_
            clear n0_ n1_ n2_
            (try clear hb)
            (try clear hb2)
            (try clear hk)
            (try clear hi)
            (try clear ho0)
            obtain ⟨Ao39, co39, eo39⟩ := Kd.R_slice HO165.out
            (first | subst eo39 | (injection eo39 with f1_ f2_ f3_; have f4_ := f1_.symm; have f5_ := f3_.symm; clear f1_ f2_ f3_; subst f4_; subst f5_))
            refine hK.out _ _ ⟨(blk_cell BK159.out 0).trans rfl, (blk_cell BK159.out 1).trans rfl, (blk_cell BK159.out 2).trans rfl, (blk_cell BK159.out 3).trans rfl, (blk_cell BK159.out 4).trans rfl, (blk_cell BK159.out 5).trans rfl, (blk_cell BK159.out 6).trans rfl⟩ (fun hHeld => ?_)
            clear hK K
            refine norm_ (a' := ?_) ?_ ?_
            rotate_left
            ·
             show Act.put _ (some 29) _ = _
             simp only [ap_, s0_, s1_, i64_w]
             rfl
            refine one_ (i := 4) (N := some 32) (bl 10 31) rfl rfl (one_of HT_.out (by kernel_rfl)) (by decide) (fun K hK => ?_)
            refine goes_ Try.func15 (by kernel_rfl) rfl #[.slice Ao39 t163.length co39, .string a1_2] (by rfl) rfl rfl am_ ?_
            with_reducible refine (compress_Find.calls kj4 _ _ t163 a1_2 t166 t167 _ ?side1 ?side2 A17.out).mono ?_
            (case side1 => repeat (first | exact (Kd.R_reads' HO165.out).2.2 | (with_reducible refine Kd.C_alloc ?_ _) | (with_reducible refine Kd.C_drewN ?_ _) | (with_reducible refine Kd.C_drew ?_)))
            (case side2 => exact (Kd.R_reads' HO165.out).2.1)
            rintro e w40 ⟨rfl, hb⟩
            refine ⟨_, rfl, ?_⟩
            have n0_ := Aside0.mk (Kd.R_below (kr_ HO165) hb)
            have n1_ := bk_ BK159 hb
            have n2_ := Aside0.mk (below_step hb_ hb)
            clear HO165
            clear BK159
            clear HB
            have HO165 := n0_
            have BK159 := n1_
            have HB := n2_
            clear n0_ n1_ n2_
            (try clear hb)
            (try clear hb2)
            (try clear hk)
            (try clear hi)
            refine hK.out _ _ ⟨(blk_cell BK159.out 0).trans rfl, (blk_cell BK159.out 1).trans rfl, (blk_cell BK159.out 2).trans rfl, (blk_cell BK159.out 3).trans rfl, (blk_cell BK159.out 4).trans rfl, (blk_cell BK159.out 5).trans rfl, (blk_cell BK159.out 6).trans rfl⟩ (fun hHeld => ?_)
            clear hK K
            refine norm_ (a' := ?_) ?_ ?_
            rotate_left
            ·
             show Act.put _ (some 32) _ = _
             simp only [ap_, s0_, s1_, i64_w]
             rfl
            refine pu_ HT_ 5 27 (bl 10 63) ?_
            refine pu_ HT_ 6 33 (bl 10 127) ?_
            refine pu_ HT_ 7 34 (bl 10 255) ?_
            refine pu_ HT_ 8 5 (bl 10 511) ?_
            refine pu_ HT_ 9 6 (bl 10 1023) ?_
            refine done_ (done_of HT_.out (by kernel_rfl)) ?_
            have hcz41_0 := bc0 BK159
            have hcz41_1 := bc1 BK159
            have hcz41_2 := bc2 BK159
            have hcz41_3 := bc3 BK159
            have hcz41_4 := bc4 BK159
            have hcz41_5 := bc5 BK159
            have hcz41_6 := bc6 BK159
            have hfz41_0 := blk_frozen BK159.out 0
            have hfz41_1 := blk_frozen BK159.out 1
            have hfz41_2 := blk_frozen BK159.out 2
            have hfz41_3 := blk_frozen BK159.out 3
            have hfz41_4 := blk_frozen BK159.out 4
            have hfz41_5 := blk_frozen BK159.out 5
            have hfz41_6 := blk_frozen BK159.out 6
            try go_wp2_with (first | ((with_reducible refine gate_callee (f := 16) rfl ?_); refine goesL_ (some 39) rfl rfl Try.func16 (by kernel_rfl) rfl #[.slice A0 l0.length c0, .string a1_2] rfl am_ ?_; (with_reducible refine (hopmeshref14_Find.calls kj4 _ _ l0 a1_2 t168 t169 _ ?side1 ?side2 A18.out).mono ?_); (case side1 => repeat (first | exact (Kd.C_below HR0.out HB.out) | (with_reducible refine Kd.C_alloc ?_ _) | (with_reducible refine Kd.C_drewN ?_ _) | (with_reducible refine Kd.C_drew ?_))); (case side2 => exact HC0.out); rintro e w42 ⟨rfl, hb⟩; refine ⟨_, rfl, ?_⟩; have n0_ := Aside0.mk (Kd.R_below (kr_ HO165) hb); have n1_ := bk_ BK159 hb; have n2_ := Aside0.mk (below_step hb_ hb); clear HO165; clear BK159; clear HB; have HO165 := n0_; have BK159 := n1_; have HB := n2_; clear n0_ n1_ n2_; (try clear hb); (try clear hb2); (try clear hk); (try clear hi)))
            have n0_ := Aside0.mk (Kd.R_drew HO165.out)
            have n1_ := Aside0.mk (blk_drew BK159.out)
            have n2_ := Aside0.mk (below_drew1 HB.out)
            clear HO165
            clear BK159
            clear HB
            have HO165 := n0_
            have BK159 := n1_
            have HB := n2_
            clear n0_ n1_ n2_
            refine start_ (n := 9) (S := fun w' => w'.cell? ⟨gb159, 0, none⟩ = some (.int .i64 a1_0) ∧ w'.cell? ⟨gb159, 1, none⟩ = some (.int .i64 a1_1) ∧ w'.cell? ⟨gb159, 2, none⟩ = some (.string a1_2) ∧ w'.cell? ⟨gb159, 3, none⟩ = some (.string a1_3) ∧ w'.cell? ⟨gb159, 4, none⟩ = some (.int .i64 a1_4) ∧ w'.cell? ⟨gb159, 5, none⟩ = some (.int .i64 a1_5) ∧ w'.cell? ⟨gb159, 6, none⟩ = some (.int .i64 a1_6)) (ds := []) #[false, false, false, false, false, false, false, false, false] (by kernel_rfl) rfl rfl ⟨(blk_cell BK159.out 0).trans rfl, (blk_cell BK159.out 1).trans rfl, (blk_cell BK159.out 2).trans rfl, (blk_cell BK159.out 3).trans rfl, (blk_cell BK159.out 4).trans rfl, (blk_cell BK159.out 5).trans rfl, (blk_cell BK159.out 6).trans rfl⟩ (fun hHeld => ?_); refine with_tabW hopmeshlaw14_CompressWrites.tab7 hopmeshlaw14_CompressWrites.bits7 (fun HT_ HW_ => ?_)
            generalize w42.drew = w43 at HO165 BK159 HB hHeld ⊢
            refine pu_ HT_ 0 43 (bl 9 1) ?_
            refine tk_ HT_ HW_ hHeld 2 45 (bl 9 5) ?_
            refine one_ (i := 1) (N := some 44) (bl 9 7) rfl rfl (one_of HT_.out (by kernel_rfl)) (by decide) (fun K hK => ?_)
            refine goes_ Try.func14 (by kernel_rfl) rfl #[.slice A0 l0.length c0] (by rfl) rfl rfl am_ ?_
            with_reducible refine (api_Context.calls _ _ l0 t170 _ ?side1 ?side2 A19.out).mono ?_
            (case side1 => repeat (first | exact (Kd.C_below HR0.out HB.out) | (with_reducible refine Kd.C_alloc ?_ _) | (with_reducible refine Kd.C_drewN ?_ _) | (with_reducible refine Kd.C_drew ?_)))
            (case side2 => exact HC0.out)
            rintro e w44 ⟨v171, rfl, ho0, hb⟩
            refine ⟨_, rfl, ?_⟩
            have n0_ := Aside0.mk (Kd.R_elder' (kr_ HO165) (Kd.R_base ho0) hb)
            have n1_ := Aside0.mk (Kd.R_lower (Kd.R_new' ho0 (Kd.R_lt (kr_ HO165))) (below_size hb_))
            have n2_ := bk_ BK159 hb
            have n3_ := Aside0.mk (below_step hb_ hb)
            clear HO165
            clear BK159
            clear HB
            have HO165 := n0_
            have HO172 := n1_
            have BK159 := n2_
            have HB := n3_
            clear n0_ n1_ n2_ n3_
            (try clear hb)
            (try clear hb2)
            (try clear hk)
            (try clear hi)
            (try clear ho0)
            obtain ⟨Ao45, co45, eo45⟩ := Kd.R_slice HO172.out
            (first | subst eo45 | (injection eo45 with f1_ f2_ f3_; have f4_ := f1_.symm; have f5_ := f3_.symm; clear f1_ f2_ f3_; subst f4_; subst f5_))
            refine hK.out _ _ ⟨(blk_cell BK159.out 0).trans rfl, (blk_cell BK159.out 1).trans rfl, (blk_cell BK159.out 2).trans rfl, (blk_cell BK159.out 3).trans rfl, (blk_cell BK159.out 4).trans rfl, (blk_cell BK159.out 5).trans rfl, (blk_cell BK159.out 6).trans rfl⟩ (fun hHeld => ?_)
            clear hK K
            refine norm_ (a' := ?_) ?_ ?_
            rotate_left
            ·
             show Act.put _ (some 44) _ = _
             simp only [ap_, s0_, s1_, i64_w]
             rfl
            refine one_ (i := 3) (N := some 46) (bl 9 15) rfl rfl (one_of HT_.out (by kernel_rfl)) (by decide) (fun K hK => ?_)
            refine goes_ Try.func17 (by kernel_rfl) rfl #[.slice Ao45 t170.length co45, .agg #[.int .i64 a1_0, .int .i64 a1_1, .string a1_2, .string a1_3, .int .i64 a1_4, .int .i64 a1_5, .int .i64 a1_6]] (by rfl) rfl rfl am_ ?_
            with_reducible refine (compress_Compress.calls _ _ t170 a1_0 a1_1 a1_2 a1_3 a1_4 a1_5 a1_6 t173 t174 _ ?side1 ?side2 A20.out).mono ?_
            (case side1 => repeat (first | exact (Kd.R_reads' HO172.out).2.2 | (with_reducible refine Kd.C_alloc ?_ _) | (with_reducible refine Kd.C_drewN ?_ _) | (with_reducible refine Kd.C_drew ?_)))
            (case side2 => exact (Kd.R_reads' HO172.out).2.1)
            rintro e w46 ⟨rfl, hb⟩
            refine ⟨_, rfl, ?_⟩
            have n0_ := Aside0.mk (Kd.R_below (kr_ HO165) hb)
            have n1_ := Aside0.mk (Kd.R_below (kr_ HO172) hb)
            have n2_ := bk_ BK159 hb
            have n3_ := Aside0.mk (below_step hb_ hb)
            clear HO165
            clear HO172
            clear BK159
            clear HB
            have HO165 := n0_
            have HO172 := n1_
            have BK159 := n2_
            have HB := n3_
            clear n0_ n1_ n2_ n3_
            (try clear hb)
            (try clear hb2)
            (try clear hk)
            (try clear hi)
            refine hK.out _ _ ⟨(blk_cell BK159.out 0).trans rfl, (blk_cell BK159.out 1).trans rfl, (blk_cell BK159.out 2).trans rfl, (blk_cell BK159.out 3).trans rfl, (blk_cell BK159.out 4).trans rfl, (blk_cell BK159.out 5).trans rfl, (blk_cell BK159.out 6).trans rfl⟩ (fun hHeld => ?_)
            clear hK K
            refine norm_ (a' := ?_) ?_ ?_
            rotate_left
            ·
             show Act.put _ (some 46) _ = _
             simp only [ap_, s0_, s1_, i64_w]
             rfl
            refine pu_ HT_ 4 42 (bl 9 31) ?_
            refine pu_ HT_ 5 47 (bl 9 63) ?_
            refine pu_ HT_ 6 48 (bl 9 127) ?_
            refine pu_ HT_ 7 9 (bl 9 255) ?_
            refine pu_ HT_ 8 10 (bl 9 511) ?_
            refine done_ (done_of HT_.out (by kernel_rfl)) ?_
            have hcz47_0 := bc0 BK159
            have hcz47_1 := bc1 BK159
            have hcz47_2 := bc2 BK159
            have hcz47_3 := bc3 BK159
            have hcz47_4 := bc4 BK159
            have hcz47_5 := bc5 BK159
            have hcz47_6 := bc6 BK159
            have hfz47_0 := blk_frozen BK159.out 0
            have hfz47_1 := blk_frozen BK159.out 1
            have hfz47_2 := blk_frozen BK159.out 2
            have hfz47_3 := blk_frozen BK159.out 3
            have hfz47_4 := blk_frozen BK159.out 4
            have hfz47_5 := blk_frozen BK159.out 5
            have hfz47_6 := blk_frozen BK159.out 6
            try go_wp2_with (first | ((with_reducible refine gate_callee (f := 18) rfl ?_); refine goesL_ (some 52) rfl rfl Try.func18 (by kernel_rfl) rfl #[.slice A0 l0.length c0, .agg #[.int .i64 a1_0, .int .i64 a1_1, .string a1_2, .string a1_3, .int .i64 a1_4, .int .i64 a1_5, .int .i64 a1_6]] rfl am_ ?_; (with_reducible refine (hopmeshref14_Compress.calls _ _ l0 a1_0 a1_1 a1_2 a1_3 a1_4 a1_5 a1_6 t175 t176 _ ?side1 ?side2 A21.out).mono ?_); (case side1 => repeat (first | exact (Kd.C_below HR0.out HB.out) | (with_reducible refine Kd.C_alloc ?_ _) | (with_reducible refine Kd.C_drewN ?_ _) | (with_reducible refine Kd.C_drew ?_))); (case side2 => exact HC0.out); rintro e w48 ⟨rfl, hb⟩; refine ⟨_, rfl, ?_⟩; have n0_ := Aside0.mk (Kd.R_below (kr_ HO165) hb); have n1_ := Aside0.mk (Kd.R_below (kr_ HO172) hb); have n2_ := bk_ BK159 hb; have n3_ := Aside0.mk (below_step hb_ hb); clear HO165; clear HO172; clear BK159; clear HB; have HO165 := n0_; have HO172 := n1_; have BK159 := n2_; have HB := n3_; clear n0_ n1_ n2_ n3_; (try clear hb); (try clear hb2); (try clear hk); (try clear hi)))
            have n0_ := Aside0.mk (Kd.R_drew HO165.out)
            have n1_ := Aside0.mk (Kd.R_drew HO172.out)
            have n2_ := Aside0.mk (blk_drew BK159.out)
            have n3_ := Aside0.mk (below_drew1 HB.out)
            clear HO165
            clear HO172
            clear BK159
            clear HB
            have HO165 := n0_
            have HO172 := n1_
            have BK159 := n2_
            have HB := n3_
            clear n0_ n1_ n2_ n3_
            refine start_ (n := 9) (S := fun w' => w'.cell? ⟨gb159, 0, none⟩ = some (.int .i64 a1_0) ∧ w'.cell? ⟨gb159, 1, none⟩ = some (.int .i64 a1_1) ∧ w'.cell? ⟨gb159, 2, none⟩ = some (.string a1_2) ∧ w'.cell? ⟨gb159, 3, none⟩ = some (.string a1_3) ∧ w'.cell? ⟨gb159, 4, none⟩ = some (.int .i64 a1_4) ∧ w'.cell? ⟨gb159, 5, none⟩ = some (.int .i64 a1_5) ∧ w'.cell? ⟨gb159, 6, none⟩ = some (.int .i64 a1_6)) (ds := []) #[false, false, false, false, false, false, false, false, false] (by kernel_rfl) rfl rfl ⟨(blk_cell BK159.out 0).trans rfl, (blk_cell BK159.out 1).trans rfl, (blk_cell BK159.out 2).trans rfl, (blk_cell BK159.out 3).trans rfl, (blk_cell BK159.out 4).trans rfl, (blk_cell BK159.out 5).trans rfl, (blk_cell BK159.out 6).trans rfl⟩ (fun hHeld => ?_); refine with_tabW hopmeshlaw14_CompressWrites.tab9 hopmeshlaw14_CompressWrites.bits9 (fun HT_ HW_ => ?_)
            generalize w48.drew = w49 at HO165 HO172 BK159 HB hHeld ⊢
            refine pu_ HT_ 0 56 (bl 9 1) ?_
            refine tk_ HT_ HW_ hHeld 2 58 (bl 9 5) ?_
            refine one_ (i := 1) (N := some 57) (bl 9 7) rfl rfl (one_of HT_.out (by kernel_rfl)) (by decide) (fun K hK => ?_)
            refine goes_ Try.func14 (by kernel_rfl) rfl #[.slice A0 l0.length c0] (by rfl) rfl rfl am_ ?_
            with_reducible refine (api_Context.calls _ _ l0 t177 _ ?side1 ?side2 A22.out).mono ?_
            (case side1 => repeat (first | exact (Kd.C_below HR0.out HB.out) | (with_reducible refine Kd.C_alloc ?_ _) | (with_reducible refine Kd.C_drewN ?_ _) | (with_reducible refine Kd.C_drew ?_)))
            (case side2 => exact HC0.out)
            rintro e w50 ⟨v178, rfl, ho0, hb⟩
            refine ⟨_, rfl, ?_⟩
            have n0_ := Aside0.mk (Kd.R_elder' (kr_ HO165) (Kd.R_base ho0) hb)
            have n1_ := Aside0.mk (Kd.R_elder' (kr_ HO172) (Kd.R_base ho0) hb)
            have n2_ := Aside0.mk (Kd.R_lower (Kd.R_new' (Kd.R_new' ho0 (Kd.R_lt (kr_ HO165))) (Kd.R_lt (kr_ HO172))) (below_size hb_))
            have n3_ := bk_ BK159 hb
            have n4_ := Aside0.mk (below_step hb_ hb)
            clear HO165
            clear HO172
            clear BK159
            clear HB
            have HO165 := n0_
            have HO172 := n1_
            have HO179 := n2_
            have BK159 := n3_
            have HB := n4_
            clear n0_ n1_ n2_ n3_ n4_
            (try clear hb)
            (try clear hb2)
            (try clear hk)
            (try clear hi)
            (try clear ho0)
            obtain ⟨Ao51, co51, eo51⟩ := Kd.R_slice HO179.out
            (first | subst eo51 | (injection eo51 with f1_ f2_ f3_; have f4_ := f1_.symm; have f5_ := f3_.symm; clear f1_ f2_ f3_; subst f4_; subst f5_))
            refine hK.out _ _ ⟨(blk_cell BK159.out 0).trans rfl, (blk_cell BK159.out 1).trans rfl, (blk_cell BK159.out 2).trans rfl, (blk_cell BK159.out 3).trans rfl, (blk_cell BK159.out 4).trans rfl, (blk_cell BK159.out 5).trans rfl, (blk_cell BK159.out 6).trans rfl⟩ (fun hHeld => ?_)
            clear hK K
            refine norm_ (a' := ?_) ?_ ?_
            rotate_left
            ·
             show Act.put _ (some 57) _ = _
             simp only [ap_, s0_, s1_, i64_w]
             rfl
            refine one_ (i := 3) (N := some 59) (bl 9 15) rfl rfl (one_of HT_.out (by kernel_rfl)) (by decide) (fun K hK => ?_)
            refine goes_ Try.func13 (by kernel_rfl) rfl #[.slice Ao51 t177.length co51, .agg #[.int .i64 a1_0, .int .i64 a1_1, .string a1_2, .string a1_3, .int .i64 a1_4, .int .i64 a1_5, .int .i64 a1_6]] (by rfl) rfl rfl am_ ?_
            with_reducible refine (compress_Bits.calls _ _ t177 a1_0 a1_1 a1_2 a1_3 a1_4 a1_5 a1_6 t180 t181 _ ?side1 ?side2 A23.out).mono ?_
            (case side1 => repeat (first | exact (Kd.R_reads' HO179.out).2.2 | (with_reducible refine Kd.C_alloc ?_ _) | (with_reducible refine Kd.C_drewN ?_ _) | (with_reducible refine Kd.C_drew ?_)))
            (case side2 => exact (Kd.R_reads' HO179.out).2.1)
            rintro e w52 ⟨rfl, hb⟩
            refine ⟨_, rfl, ?_⟩
            have n0_ := Aside0.mk (Kd.R_below (kr_ HO165) hb)
            have n1_ := Aside0.mk (Kd.R_below (kr_ HO172) hb)
            have n2_ := Aside0.mk (Kd.R_below (kr_ HO179) hb)
            have n3_ := bk_ BK159 hb
            have n4_ := Aside0.mk (below_step hb_ hb)
            clear HO165
            clear HO172
            clear HO179
            clear BK159
            clear HB
            have HO165 := n0_
            have HO172 := n1_
            have HO179 := n2_
            have BK159 := n3_
            have HB := n4_
            clear n0_ n1_ n2_ n3_ n4_
            (try clear hb)
            (try clear hb2)
            (try clear hk)
            (try clear hi)
            refine hK.out _ _ ⟨(blk_cell BK159.out 0).trans rfl, (blk_cell BK159.out 1).trans rfl, (blk_cell BK159.out 2).trans rfl, (blk_cell BK159.out 3).trans rfl, (blk_cell BK159.out 4).trans rfl, (blk_cell BK159.out 5).trans rfl, (blk_cell BK159.out 6).trans rfl⟩ (fun hHeld => ?_)
            clear hK K
            refine norm_ (a' := ?_) ?_ ?_
            rotate_left
            ·
             show Act.put _ (some 59) _ = _
             simp only [ap_, s0_, s1_, i64_w]
             rfl
            refine pu_ HT_ 4 55 (bl 9 31) ?_
            refine pu_ HT_ 5 60 (bl 9 63) ?_
            refine pu_ HT_ 6 61 (bl 9 127) ?_
            refine pu_ HT_ 7 13 (bl 9 255) ?_
            refine pu_ HT_ 8 14 (bl 9 511) ?_
            refine done_ (done_of HT_.out (by kernel_rfl)) ?_
            have hcz53_0 := bc0 BK159
            have hcz53_1 := bc1 BK159
            have hcz53_2 := bc2 BK159
            have hcz53_3 := bc3 BK159
            have hcz53_4 := bc4 BK159
            have hcz53_5 := bc5 BK159
            have hcz53_6 := bc6 BK159
            have hfz53_0 := blk_frozen BK159.out 0
            have hfz53_1 := blk_frozen BK159.out 1
            have hfz53_2 := blk_frozen BK159.out 2
            have hfz53_3 := blk_frozen BK159.out 3
            have hfz53_4 := blk_frozen BK159.out 4
            have hfz53_5 := blk_frozen BK159.out 5
            have hfz53_6 := blk_frozen BK159.out 6
            try go_wp2_with (first | ((with_reducible refine gate_callee (f := 19) rfl ?_); refine goesL_ (some 65) rfl rfl Try.func19 (by kernel_rfl) rfl #[.slice A0 l0.length c0, .agg #[.int .i64 a1_0, .int .i64 a1_1, .string a1_2, .string a1_3, .int .i64 a1_4, .int .i64 a1_5, .int .i64 a1_6]] rfl am_ ?_; (with_reducible refine (hopmeshref14_Bits.calls _ _ l0 a1_0 a1_1 a1_2 a1_3 a1_4 a1_5 a1_6 t182 t183 _ ?side1 ?side2 A24.out).mono ?_); (case side1 => repeat (first | exact (Kd.C_below HR0.out HB.out) | (with_reducible refine Kd.C_alloc ?_ _) | (with_reducible refine Kd.C_drewN ?_ _) | (with_reducible refine Kd.C_drew ?_))); (case side2 => exact HC0.out); rintro e w54 ⟨rfl, hb⟩; refine ⟨_, rfl, ?_⟩; have n0_ := Aside0.mk (Kd.R_below (kr_ HO165) hb); have n1_ := Aside0.mk (Kd.R_below (kr_ HO172) hb); have n2_ := Aside0.mk (Kd.R_below (kr_ HO179) hb); have n3_ := bk_ BK159 hb; have n4_ := Aside0.mk (below_step hb_ hb); clear HO165; clear HO172; clear HO179; clear BK159; clear HB; have HO165 := n0_; have HO172 := n1_; have HO179 := n2_; have BK159 := n3_; have HB := n4_; clear n0_ n1_ n2_ n3_ n4_; (try clear hb); (try clear hb2); (try clear hk); (try clear hi)))
            have n0_ := Aside0.mk (Kd.R_drew HO165.out)
            have n1_ := Aside0.mk (Kd.R_drew HO172.out)
            have n2_ := Aside0.mk (Kd.R_drew HO179.out)
            have n3_ := Aside0.mk (blk_drew BK159.out)
            have n4_ := Aside0.mk (below_drew1 HB.out)
            clear HO165
            clear HO172
            clear HO179
            clear BK159
            clear HB
            have HO165 := n0_
            have HO172 := n1_
            have HO179 := n2_
            have BK159 := n3_
            have HB := n4_
            clear n0_ n1_ n2_ n3_ n4_
            refine start_ (n := 44) (S := fun w' => w'.cell? ⟨gb159, 0, none⟩ = some (.int .i64 a1_0) ∧ w'.cell? ⟨gb159, 1, none⟩ = some (.int .i64 a1_1) ∧ w'.cell? ⟨gb159, 2, none⟩ = some (.string a1_2) ∧ w'.cell? ⟨gb159, 3, none⟩ = some (.string a1_3) ∧ w'.cell? ⟨gb159, 4, none⟩ = some (.int .i64 a1_4) ∧ w'.cell? ⟨gb159, 5, none⟩ = some (.int .i64 a1_5) ∧ w'.cell? ⟨gb159, 6, none⟩ = some (.int .i64 a1_6)) (ds := []) #[false, false, false, false, false, false, false, false, false, false, false, false, false, false, false, false, false, false, false, false, false, false, false, false, false, false, false, false, false, false, false, false, false, false, false, false, false, false, false, false, false, false, false, false] (by kernel_rfl) rfl rfl ⟨(blk_cell BK159.out 0).trans rfl, (blk_cell BK159.out 1).trans rfl, (blk_cell BK159.out 2).trans rfl, (blk_cell BK159.out 3).trans rfl, (blk_cell BK159.out 4).trans rfl, (blk_cell BK159.out 5).trans rfl, (blk_cell BK159.out 6).trans rfl⟩ (fun hHeld => ?_); refine with_tabW hopmeshlaw14_CompressWrites.tab11 hopmeshlaw14_CompressWrites.bits11 (fun HT_ HW_ => ?_)
            generalize w54.drew = w55 at HO165 HO172 HO179 BK159 HB hHeld ⊢
            refine tk_ HT_ HW_ hHeld 0 68 (bl 44 1) ?_
            refine tk_ HT_ HW_ hHeld 2 70 (bl 44 5) ?_
            refine one_ (i := 1) (N := some 69) (bl 44 7) rfl rfl (one_of HT_.out (by kernel_rfl)) (by decide) (fun K hK => ?_)
            refine goes_ Try.func20 (by kernel_rfl) rfl #[.agg #[.int .i64 a1_0, .int .i64 a1_1, .string a1_2, .string a1_3, .int .i64 a1_4, .int .i64 a1_5, .int .i64 a1_6]] (by rfl) rfl rfl am_ ?_
            with_reducible refine (compress_Check.calls kj4 a1_0 a1_1 a1_2 a1_3 a1_4 a1_5 a1_6 t184 _ A25.out).mono ?_
            rintro e w56 ⟨rfl, hb⟩
            refine ⟨_, rfl, ?_⟩
            have n0_ := Aside0.mk (Kd.R_below (kr_ HO165) hb)
            have n1_ := Aside0.mk (Kd.R_below (kr_ HO172) hb)
            have n2_ := Aside0.mk (Kd.R_below (kr_ HO179) hb)
            have n3_ := bk_ BK159 hb
            have n4_ := Aside0.mk (below_step hb_ hb)
            clear HO165
            clear HO172
            clear HO179
            clear BK159
            clear HB
            have HO165 := n0_
            have HO172 := n1_
            have HO179 := n2_
            have BK159 := n3_
            have HB := n4_
            clear n0_ n1_ n2_ n3_ n4_
            (try clear hb)
            (try clear hb2)
            (try clear hk)
            (try clear hi)
            refine hK.out _ _ ⟨(blk_cell BK159.out 0).trans rfl, (blk_cell BK159.out 1).trans rfl, (blk_cell BK159.out 2).trans rfl, (blk_cell BK159.out 3).trans rfl, (blk_cell BK159.out 4).trans rfl, (blk_cell BK159.out 5).trans rfl, (blk_cell BK159.out 6).trans rfl⟩ (fun hHeld => ?_)
            clear hK K
            refine norm_ (a' := ?_) ?_ ?_
            rotate_left
            ·
             show Act.put _ (some 69) _ = _
             simp only [ap_, s0_, s1_, i64_w]
             rfl
            refine one_ (i := 3) (N := some 71) (bl 44 15) rfl rfl (one_of HT_.out (by kernel_rfl)) (by decide) (fun K hK => ?_)
            refine goes_ Try.func21 (by kernel_rfl) rfl #[.agg #[.int .i64 a1_0, .int .i64 a1_1, .string a1_2, .string a1_3, .int .i64 a1_4, .int .i64 a1_5, .int .i64 a1_6]] (by rfl) rfl rfl am_ ?_
            with_reducible refine (hopmeshref14_Check.calls kj4 a1_0 a1_1 a1_2 a1_3 a1_4 a1_5 a1_6 t185 _ A26.out).mono ?_
            rintro e w57 ⟨rfl, hb⟩
            refine ⟨_, rfl, ?_⟩
            have n0_ := Aside0.mk (Kd.R_below (kr_ HO165) hb)
            have n1_ := Aside0.mk (Kd.R_below (kr_ HO172) hb)
            have n2_ := Aside0.mk (Kd.R_below (kr_ HO179) hb)
            have n3_ := bk_ BK159 hb
            have n4_ := Aside0.mk (below_step hb_ hb)
            clear HO165
            clear HO172
            clear HO179
            clear BK159
            clear HB
            have HO165 := n0_
            have HO172 := n1_
            have HO179 := n2_
            have BK159 := n3_
            have HB := n4_
            clear n0_ n1_ n2_ n3_ n4_
            (try clear hb)
            (try clear hb2)
            (try clear hk)
            (try clear hi)
            refine hK.out _ _ ⟨(blk_cell BK159.out 0).trans rfl, (blk_cell BK159.out 1).trans rfl, (blk_cell BK159.out 2).trans rfl, (blk_cell BK159.out 3).trans rfl, (blk_cell BK159.out 4).trans rfl, (blk_cell BK159.out 5).trans rfl, (blk_cell BK159.out 6).trans rfl⟩ (fun hHeld => ?_)
            clear hK K
            refine norm_ (a' := ?_) ?_ ?_
            rotate_left
            ·
             show Act.put _ (some 71) _ = _
             simp only [ap_, s0_, s1_, i64_w]
             rfl
            refine pu_ HT_ 4 72 (bl 44 31) ?_
            refine pu_ HT_ 5 73 (bl 44 63) ?_
            refine pu_ HT_ 6 74 (bl 44 127) ?_
            refine pu_ HT_ 9 77 (bl 44 639) ?_
            refine one_ (i := 7) (N := some 75) (bl 44 767) rfl rfl (one_of HT_.out (by kernel_rfl)) (by decide) (fun K hK => ?_)
            refine goes_ Try.func14 (by kernel_rfl) rfl #[.slice A0 l0.length c0] (by rfl) rfl rfl am_ ?_
            with_reducible refine (api_Context.calls _ _ l0 t186 _ ?side1 ?side2 A28.out).mono ?_
            (case side1 => repeat (first | exact (Kd.C_below HR0.out HB.out) | (with_reducible refine Kd.C_alloc ?_ _) | (with_reducible refine Kd.C_drewN ?_ _) | (with_reducible refine Kd.C_drew ?_)))
            (case side2 => exact HC0.out)
            rintro e w58 ⟨v187, rfl, ho0, hb⟩
            refine ⟨_, rfl, ?_⟩
            have n0_ := Aside0.mk (Kd.R_elder' (kr_ HO165) (Kd.R_base ho0) hb)
            have n1_ := Aside0.mk (Kd.R_elder' (kr_ HO172) (Kd.R_base ho0) hb)
            have n2_ := Aside0.mk (Kd.R_elder' (kr_ HO179) (Kd.R_base ho0) hb)
            have n3_ := Aside0.mk (Kd.R_lower (Kd.R_new' (Kd.R_new' (Kd.R_new' ho0 (Kd.R_lt (kr_ HO165))) (Kd.R_lt (kr_ HO172))) (Kd.R_lt (kr_ HO179))) (below_size hb_))
            have n4_ := bk_ BK159 hb
            have n5_ := Aside0.mk (below_step hb_ hb)
            clear HO165
            clear HO172
            clear HO179
            clear BK159
            clear HB
            have HO165 := n0_
            have HO172 := n1_
            have HO179 := n2_
            have HO188 := n3_
            have BK159 := n4_
            have HB := n5_
            clear n0_ n1_ n2_ n3_ n4_ n5_
            (try clear hb)
            (try clear hb2)
            (try clear hk)
            (try clear hi)
            (try clear ho0)
            obtain ⟨Ao59, co59, eo59⟩ := Kd.R_slice HO188.out
            (first | subst eo59 | (injection eo59 with f1_ f2_ f3_; have f4_ := f1_.symm; have f5_ := f3_.symm; clear f1_ f2_ f3_; subst f4_; subst f5_))
            refine hK.out _ _ ⟨(blk_cell BK159.out 0).trans rfl, (blk_cell BK159.out 1).trans rfl, (blk_cell BK159.out 2).trans rfl, (blk_cell BK159.out 3).trans rfl, (blk_cell BK159.out 4).trans rfl, (blk_cell BK159.out 5).trans rfl, (blk_cell BK159.out 6).trans rfl⟩ (fun hHeld => ?_)
            clear hK K
            refine norm_ (a' := ?_) ?_ ?_
            rotate_left
            ·
             show Act.put _ (some 75) _ = _
             simp only [ap_, s0_, s1_, i64_w]
             rfl
            refine one_ (i := 8) (N := some 76) (bl 44 1023) rfl rfl (one_of HT_.out (by kernel_rfl)) (by decide) (fun K hK => ?_)
            refine goes_ Try.func22 (by kernel_rfl) rfl #[.slice Ao59 t186.length co59] (by rfl) rfl rfl am_ ?_
            with_reducible refine (compress_Contexts.calls _ _ t186 t189 _ ?side1 ?side2 A29.out).mono ?_
            (case side1 => repeat (first | exact (Kd.R_reads' HO188.out).2.2 | (with_reducible refine Kd.C_alloc ?_ _) | (with_reducible refine Kd.C_drewN ?_ _) | (with_reducible refine Kd.C_drew ?_)))
            (case side2 => exact (Kd.R_reads' HO188.out).2.1)
            rintro e w60 ⟨rfl, hb⟩
            refine ⟨_, rfl, ?_⟩
            have n0_ := Aside0.mk (Kd.R_below (kr_ HO165) hb)
            have n1_ := Aside0.mk (Kd.R_below (kr_ HO172) hb)
            have n2_ := Aside0.mk (Kd.R_below (kr_ HO179) hb)
            have n3_ := Aside0.mk (Kd.R_below (kr_ HO188) hb)
            have n4_ := bk_ BK159 hb
            have n5_ := Aside0.mk (below_step hb_ hb)
            clear HO165
            clear HO172
            clear HO179
            clear HO188
            clear BK159
            clear HB
            have HO165 := n0_
            have HO172 := n1_
            have HO179 := n2_
            have HO188 := n3_
            have BK159 := n4_
            have HB := n5_
            clear n0_ n1_ n2_ n3_ n4_ n5_
            (try clear hb)
            (try clear hb2)
            (try clear hk)
            (try clear hi)
            refine hK.out _ _ ⟨(blk_cell BK159.out 0).trans rfl, (blk_cell BK159.out 1).trans rfl, (blk_cell BK159.out 2).trans rfl, (blk_cell BK159.out 3).trans rfl, (blk_cell BK159.out 4).trans rfl, (blk_cell BK159.out 5).trans rfl, (blk_cell BK159.out 6).trans rfl⟩ (fun hHeld => ?_)
            clear hK K
            refine norm_ (a' := ?_) ?_ ?_
            rotate_left
            ·
             show Act.put _ (some 76) _ = _
             simp only [ap_, s0_, s1_, i64_w]
             rfl
            refine one_ (i := 10) (N := some 78) (bl 44 2047) rfl rfl (one_of HT_.out (by kernel_rfl)) (by decide) (fun K hK => ?_)
            refine goes_ Try.func23 (by kernel_rfl) rfl #[.slice A0 l0.length c0] (by rfl) rfl rfl am_ ?_
            with_reducible refine (hopmeshref14_Contexts.calls kj4 _ _ l0 t190 _ ?side1 ?side2 A30.out).mono ?_
            (case side1 => repeat (first | exact (Kd.C_below HR0.out HB.out) | (with_reducible refine Kd.C_alloc ?_ _) | (with_reducible refine Kd.C_drewN ?_ _) | (with_reducible refine Kd.C_drew ?_)))
            (case side2 => exact HC0.out)
            rintro e w' ⟨rfl, ⟨nd, rfl⟩⟩
            refine ⟨_, rfl, ?_⟩
            refine hK.out _ _ ⟨(blk_cell BK159.out 0).trans rfl, (blk_cell BK159.out 1).trans rfl, (blk_cell BK159.out 2).trans rfl, (blk_cell BK159.out 3).trans rfl, (blk_cell BK159.out 4).trans rfl, (blk_cell BK159.out 5).trans rfl, (blk_cell BK159.out 6).trans rfl⟩ (fun hHeld => ?_)
            clear hK K
            refine norm_ (a' := ?_) ?_ ?_
            rotate_left
            ·
             show Act.put _ (some 78) _ = _
             simp only [ap_, s0_, s1_, i64_w]
             rfl
            refine pu_ HT_ 11 79 (bl 44 4095) ?_
            refine pu_ HT_ 12 80 (bl 44 8191) ?_
            refine pu_ HT_ 13 81 (bl 44 16383) ?_
            refine pu_ HT_ 14 82 (bl 44 32767) ?_
            refine pu_ HT_ 15 83 (bl 44 65535) ?_
            refine pu_ HT_ 16 84 (bl 44 131071) ?_
            refine pu_ HT_ 17 85 (bl 44 262143) ?_
            refine pu_ HT_ 18 86 (bl 44 524287) ?_
            refine pu_ HT_ 19 87 (bl 44 1048575) ?_
            refine pu_ HT_ 20 88 (bl 44 2097151) ?_
            refine pu_ HT_ 21 89 (bl 44 4194303) ?_
            refine pu_ HT_ 22 90 (bl 44 8388607) ?_
            refine pu_ HT_ 23 91 (bl 44 16777215) ?_
            refine pu_ HT_ 24 92 (bl 44 33554431) ?_
            refine pu_ HT_ 25 93 (bl 44 67108863) ?_
            refine pu_ HT_ 26 94 (bl 44 134217727) ?_
            refine pu_ HT_ 27 95 (bl 44 268435455) ?_
            refine pu_ HT_ 28 96 (bl 44 536870911) ?_
            refine pu_ HT_ 29 97 (bl 44 1073741823) ?_
            refine pu_ HT_ 30 98 (bl 44 2147483647) ?_
            refine pu_ HT_ 31 99 (bl 44 4294967295) ?_
            refine pu_ HT_ 32 100 (bl 44 8589934591) ?_
            refine pu_ HT_ 33 101 (bl 44 17179869183) ?_
            refine pu_ HT_ 34 102 (bl 44 34359738367) ?_
            refine pu_ HT_ 35 103 (bl 44 68719476735) ?_
            refine pu_ HT_ 36 104 (bl 44 137438953471) ?_
            refine pu_ HT_ 37 105 (bl 44 274877906943) ?_
            refine pu_ HT_ 38 106 (bl 44 549755813887) ?_
            refine pu_ HT_ 39 107 (bl 44 1099511627775) ?_
            refine pu_ HT_ 40 108 (bl 44 2199023255551) ?_
            refine pu_ HT_ 41 109 (bl 44 4398046511103) ?_
            refine pu_ HT_ 42 110 (bl 44 8796093022207) ?_
            refine pu_ HT_ 43 4 (bl 44 17592186044415) ?_
            refine done_ (done_of HT_.out (by kernel_rfl)) ?_
            try go_wp2
            go_ret
            exact ⟨er_, hb_⟩
           ·
            rw [if_neg c36] at H
            have c36b0 : (t180 == t182) = false := beq_eq_false_iff_ne.mpr c36
            have c36b1 : (t180 != t182) = true := bne_iff_ne.mpr c36
            obtain rfl := Option.some.inj H
            try go_wp2
            have n0_ := Aside0.mk (blk_drew BK159.out)
            have n1_ := Aside0.mk (below_drew1 HB.out)
            clear BK159
            clear HB
            have BK159 := n0_
            have HB := n1_
            clear n0_ n1_
            refine start_ (n := 10) (S := fun w' => w'.cell? ⟨gb159, 0, none⟩ = some (.int .i64 a1_0) ∧ w'.cell? ⟨gb159, 1, none⟩ = some (.int .i64 a1_1) ∧ w'.cell? ⟨gb159, 2, none⟩ = some (.string a1_2) ∧ w'.cell? ⟨gb159, 3, none⟩ = some (.string a1_3) ∧ w'.cell? ⟨gb159, 4, none⟩ = some (.int .i64 a1_4) ∧ w'.cell? ⟨gb159, 5, none⟩ = some (.int .i64 a1_5) ∧ w'.cell? ⟨gb159, 6, none⟩ = some (.int .i64 a1_6)) (ds := []) #[false, false, false, false, false, false, false, false, false, false] (by kernel_rfl) rfl rfl ⟨(blk_cell BK159.out 0).trans rfl, (blk_cell BK159.out 1).trans rfl, (blk_cell BK159.out 2).trans rfl, (blk_cell BK159.out 3).trans rfl, (blk_cell BK159.out 4).trans rfl, (blk_cell BK159.out 5).trans rfl, (blk_cell BK159.out 6).trans rfl⟩ (fun hHeld => ?_); refine with_tabW hopmeshlaw14_CompressWrites.tab5 hopmeshlaw14_CompressWrites.bits5 (fun HT_ HW_ => ?_)
            generalize wc.drew = w61 at BK159 HB hHeld ⊢
            refine pu_ HT_ 0 28 (bl 10 1) ?_
            refine pu_ HT_ 2 30 (bl 10 5) ?_
            refine tk_ HT_ HW_ hHeld 3 31 (bl 10 13) ?_
            refine one_ (i := 1) (N := some 29) (bl 10 15) rfl rfl (one_of HT_.out (by kernel_rfl)) (by decide) (fun K hK => ?_)
            refine goes_ Try.func14 (by kernel_rfl) rfl #[.slice A0 l0.length c0] (by rfl) rfl rfl am_ ?_
            with_reducible refine (api_Context.calls _ _ l0 t163 _ ?side1 ?side2 A16.out).mono ?_
            (case side1 => repeat (first | exact (Kd.C_below HR0.out HB.out) | (with_reducible refine Kd.C_alloc ?_ _) | (with_reducible refine Kd.C_drewN ?_ _) | (with_reducible refine Kd.C_drew ?_)))
            (case side2 => exact HC0.out)
            rintro e w62 ⟨v164, rfl, ho0, hb⟩
            refine ⟨_, rfl, ?_⟩
            have n0_ := Aside0.mk (Kd.R_lower ho0 (below_size hb_))
            have n1_ := bk_ BK159 hb
            have n2_ := Aside0.mk (below_step hb_ hb)
            clear BK159
            clear HB
            have HO165 := n0_
            have BK159 := n1_
            have HB := n2_
            clear n0_ n1_ n2_
            (try clear hb)
            (try clear hb2)
            (try clear hk)
            (try clear hi)
            (try clear ho0)
            obtain ⟨Ao63, co63, eo63⟩ := Kd.R_slice HO165.out
            (first | subst eo63 | (injection eo63 with f1_ f2_ f3_; have f4_ := f1_.symm; have f5_ := f3_.symm; clear f1_ f2_ f3_; subst f4_; subst f5_))
            refine hK.out _ _ ⟨(blk_cell BK159.out 0).trans rfl, (blk_cell BK159.out 1).trans rfl, (blk_cell BK159.out 2).trans rfl, (blk_cell BK159.out 3).trans rfl, (blk_cell BK159.out 4).trans rfl, (blk_cell BK159.out 5).trans rfl, (blk_cell BK159.out 6).trans rfl⟩ (fun hHeld => ?_)
            clear hK K
            refine norm_ (a' := ?_) ?_ ?_
            rotate_left
            ·
             show Act.put _ (some 29) _ = _
             simp only [ap_, s0_, s1_, i64_w]
             rfl
            refine one_ (i := 4) (N := some 32) (bl 10 31) rfl rfl (one_of HT_.out (by kernel_rfl)) (by decide) (fun K hK => ?_)
            refine goes_ Try.func15 (by kernel_rfl) rfl #[.slice Ao63 t163.length co63, .string a1_2] (by rfl) rfl rfl am_ ?_
            with_reducible refine (compress_Find.calls kj4 _ _ t163 a1_2 t166 t167 _ ?side1 ?side2 A17.out).mono ?_
            (case side1 => repeat (first | exact (Kd.R_reads' HO165.out).2.2 | (with_reducible refine Kd.C_alloc ?_ _) | (with_reducible refine Kd.C_drewN ?_ _) | (with_reducible refine Kd.C_drew ?_)))
            (case side2 => exact (Kd.R_reads' HO165.out).2.1)
            rintro e w64 ⟨rfl, hb⟩
            refine ⟨_, rfl, ?_⟩
            have n0_ := Aside0.mk (Kd.R_below (kr_ HO165) hb)
            have n1_ := bk_ BK159 hb
            have n2_ := Aside0.mk (below_step hb_ hb)
            clear HO165
            clear BK159
            clear HB
            have HO165 := n0_
            have BK159 := n1_
            have HB := n2_
            clear n0_ n1_ n2_
            (try clear hb)
            (try clear hb2)
            (try clear hk)
            (try clear hi)
            refine hK.out _ _ ⟨(blk_cell BK159.out 0).trans rfl, (blk_cell BK159.out 1).trans rfl, (blk_cell BK159.out 2).trans rfl, (blk_cell BK159.out 3).trans rfl, (blk_cell BK159.out 4).trans rfl, (blk_cell BK159.out 5).trans rfl, (blk_cell BK159.out 6).trans rfl⟩ (fun hHeld => ?_)
            clear hK K
            refine norm_ (a' := ?_) ?_ ?_
            rotate_left
            ·
             show Act.put _ (some 32) _ = _
             simp only [ap_, s0_, s1_, i64_w]
             rfl
            refine pu_ HT_ 5 27 (bl 10 63) ?_
            refine pu_ HT_ 6 33 (bl 10 127) ?_
            refine pu_ HT_ 7 34 (bl 10 255) ?_
            refine pu_ HT_ 8 5 (bl 10 511) ?_
            refine pu_ HT_ 9 6 (bl 10 1023) ?_
            refine done_ (done_of HT_.out (by kernel_rfl)) ?_
            have hcz65_0 := bc0 BK159
            have hcz65_1 := bc1 BK159
            have hcz65_2 := bc2 BK159
            have hcz65_3 := bc3 BK159
            have hcz65_4 := bc4 BK159
            have hcz65_5 := bc5 BK159
            have hcz65_6 := bc6 BK159
            have hfz65_0 := blk_frozen BK159.out 0
            have hfz65_1 := blk_frozen BK159.out 1
            have hfz65_2 := blk_frozen BK159.out 2
            have hfz65_3 := blk_frozen BK159.out 3
            have hfz65_4 := blk_frozen BK159.out 4
            have hfz65_5 := blk_frozen BK159.out 5
            have hfz65_6 := blk_frozen BK159.out 6
            try go_wp2_with (first | ((with_reducible refine gate_callee (f := 16) rfl ?_); refine goesL_ (some 39) rfl rfl Try.func16 (by kernel_rfl) rfl #[.slice A0 l0.length c0, .string a1_2] rfl am_ ?_; (with_reducible refine (hopmeshref14_Find.calls kj4 _ _ l0 a1_2 t168 t169 _ ?side1 ?side2 A18.out).mono ?_); (case side1 => repeat (first | exact (Kd.C_below HR0.out HB.out) | (with_reducible refine Kd.C_alloc ?_ _) | (with_reducible refine Kd.C_drewN ?_ _) | (with_reducible refine Kd.C_drew ?_))); (case side2 => exact HC0.out); rintro e w66 ⟨rfl, hb⟩; refine ⟨_, rfl, ?_⟩; have n0_ := Aside0.mk (Kd.R_below (kr_ HO165) hb); have n1_ := bk_ BK159 hb; have n2_ := Aside0.mk (below_step hb_ hb); clear HO165; clear BK159; clear HB; have HO165 := n0_; have BK159 := n1_; have HB := n2_; clear n0_ n1_ n2_; (try clear hb); (try clear hb2); (try clear hk); (try clear hi)))
            have n0_ := Aside0.mk (Kd.R_drew HO165.out)
            have n1_ := Aside0.mk (blk_drew BK159.out)
            have n2_ := Aside0.mk (below_drew1 HB.out)
            clear HO165
            clear BK159
            clear HB
            have HO165 := n0_
            have BK159 := n1_
            have HB := n2_
            clear n0_ n1_ n2_
            refine start_ (n := 9) (S := fun w' => w'.cell? ⟨gb159, 0, none⟩ = some (.int .i64 a1_0) ∧ w'.cell? ⟨gb159, 1, none⟩ = some (.int .i64 a1_1) ∧ w'.cell? ⟨gb159, 2, none⟩ = some (.string a1_2) ∧ w'.cell? ⟨gb159, 3, none⟩ = some (.string a1_3) ∧ w'.cell? ⟨gb159, 4, none⟩ = some (.int .i64 a1_4) ∧ w'.cell? ⟨gb159, 5, none⟩ = some (.int .i64 a1_5) ∧ w'.cell? ⟨gb159, 6, none⟩ = some (.int .i64 a1_6)) (ds := []) #[false, false, false, false, false, false, false, false, false] (by kernel_rfl) rfl rfl ⟨(blk_cell BK159.out 0).trans rfl, (blk_cell BK159.out 1).trans rfl, (blk_cell BK159.out 2).trans rfl, (blk_cell BK159.out 3).trans rfl, (blk_cell BK159.out 4).trans rfl, (blk_cell BK159.out 5).trans rfl, (blk_cell BK159.out 6).trans rfl⟩ (fun hHeld => ?_); refine with_tabW hopmeshlaw14_CompressWrites.tab7 hopmeshlaw14_CompressWrites.bits7 (fun HT_ HW_ => ?_)
            generalize w66.drew = w67 at HO165 BK159 HB hHeld ⊢
            refine pu_ HT_ 0 43 (bl 9 1) ?_
            refine tk_ HT_ HW_ hHeld 2 45 (bl 9 5) ?_
            refine one_ (i := 1) (N := some 44) (bl 9 7) rfl rfl (one_of HT_.out (by kernel_rfl)) (by decide) (fun K hK => ?_)
            refine goes_ Try.func14 (by kernel_rfl) rfl #[.slice A0 l0.length c0] (by rfl) rfl rfl am_ ?_
            with_reducible refine (api_Context.calls _ _ l0 t170 _ ?side1 ?side2 A19.out).mono ?_
            (case side1 => repeat (first | exact (Kd.C_below HR0.out HB.out) | (with_reducible refine Kd.C_alloc ?_ _) | (with_reducible refine Kd.C_drewN ?_ _) | (with_reducible refine Kd.C_drew ?_)))
            (case side2 => exact HC0.out)
            rintro e w68 ⟨v171, rfl, ho0, hb⟩
            refine ⟨_, rfl, ?_⟩
            have n0_ := Aside0.mk (Kd.R_elder' (kr_ HO165) (Kd.R_base ho0) hb)
            have n1_ := Aside0.mk (Kd.R_lower (Kd.R_new' ho0 (Kd.R_lt (kr_ HO165))) (below_size hb_))
            have n2_ := bk_ BK159 hb
            have n3_ := Aside0.mk (below_step hb_ hb)
            clear HO165
            clear BK159
            clear HB
            have HO165 := n0_
            have HO172 := n1_
            have BK159 := n2_
            have HB := n3_
            clear n0_ n1_ n2_ n3_
            (try clear hb)
            (try clear hb2)
            (try clear hk)
            (try clear hi)
            (try clear ho0)
            obtain ⟨Ao69, co69, eo69⟩ := Kd.R_slice HO172.out
            (first | subst eo69 | (injection eo69 with f1_ f2_ f3_; have f4_ := f1_.symm; have f5_ := f3_.symm; clear f1_ f2_ f3_; subst f4_; subst f5_))
            refine hK.out _ _ ⟨(blk_cell BK159.out 0).trans rfl, (blk_cell BK159.out 1).trans rfl, (blk_cell BK159.out 2).trans rfl, (blk_cell BK159.out 3).trans rfl, (blk_cell BK159.out 4).trans rfl, (blk_cell BK159.out 5).trans rfl, (blk_cell BK159.out 6).trans rfl⟩ (fun hHeld => ?_)
            clear hK K
            refine norm_ (a' := ?_) ?_ ?_
            rotate_left
            ·
             show Act.put _ (some 44) _ = _
             simp only [ap_, s0_, s1_, i64_w]
             rfl
            refine one_ (i := 3) (N := some 46) (bl 9 15) rfl rfl (one_of HT_.out (by kernel_rfl)) (by decide) (fun K hK => ?_)
            refine goes_ Try.func17 (by kernel_rfl) rfl #[.slice Ao69 t170.length co69, .agg #[.int .i64 a1_0, .int .i64 a1_1, .string a1_2, .string a1_3, .int .i64 a1_4, .int .i64 a1_5, .int .i64 a1_6]] (by rfl) rfl rfl am_ ?_
            with_reducible refine (compress_Compress.calls _ _ t170 a1_0 a1_1 a1_2 a1_3 a1_4 a1_5 a1_6 t173 t174 _ ?side1 ?side2 A20.out).mono ?_
            (case side1 => repeat (first | exact (Kd.R_reads' HO172.out).2.2 | (with_reducible refine Kd.C_alloc ?_ _) | (with_reducible refine Kd.C_drewN ?_ _) | (with_reducible refine Kd.C_drew ?_)))
            (case side2 => exact (Kd.R_reads' HO172.out).2.1)
            rintro e w70 ⟨rfl, hb⟩
            refine ⟨_, rfl, ?_⟩
            have n0_ := Aside0.mk (Kd.R_below (kr_ HO165) hb)
            have n1_ := Aside0.mk (Kd.R_below (kr_ HO172) hb)
            have n2_ := bk_ BK159 hb
            have n3_ := Aside0.mk (below_step hb_ hb)
            clear HO165
            clear HO172
            clear BK159
            clear HB
            have HO165 := n0_
            have HO172 := n1_
            have BK159 := n2_
            have HB := n3_
            clear n0_ n1_ n2_ n3_
            (try clear hb)
            (try clear hb2)
            (try clear hk)
            (try clear hi)
            refine hK.out _ _ ⟨(blk_cell BK159.out 0).trans rfl, (blk_cell BK159.out 1).trans rfl, (blk_cell BK159.out 2).trans rfl, (blk_cell BK159.out 3).trans rfl, (blk_cell BK159.out 4).trans rfl, (blk_cell BK159.out 5).trans rfl, (blk_cell BK159.out 6).trans rfl⟩ (fun hHeld => ?_)
            clear hK K
            refine norm_ (a' := ?_) ?_ ?_
            rotate_left
            ·
             show Act.put _ (some 46) _ = _
             simp only [ap_, s0_, s1_, i64_w]
             rfl
            refine pu_ HT_ 4 42 (bl 9 31) ?_
            refine pu_ HT_ 5 47 (bl 9 63) ?_
            refine pu_ HT_ 6 48 (bl 9 127) ?_
            refine pu_ HT_ 7 9 (bl 9 255) ?_
            refine pu_ HT_ 8 10 (bl 9 511) ?_
            refine done_ (done_of HT_.out (by kernel_rfl)) ?_
            have hcz71_0 := bc0 BK159
            have hcz71_1 := bc1 BK159
            have hcz71_2 := bc2 BK159
            have hcz71_3 := bc3 BK159
            have hcz71_4 := bc4 BK159
            have hcz71_5 := bc5 BK159
            have hcz71_6 := bc6 BK159
            have hfz71_0 := blk_frozen BK159.out 0
            have hfz71_1 := blk_frozen BK159.out 1
            have hfz71_2 := blk_frozen BK159.out 2
            have hfz71_3 := blk_frozen BK159.out 3
            have hfz71_4 := blk_frozen BK159.out 4
            have hfz71_5 := blk_frozen BK159.out 5
            have hfz71_6 := blk_frozen BK159.out 6
            try go_wp2_with (first | ((with_reducible refine gate_callee (f := 18) rfl ?_); refine goesL_ (some 52) rfl rfl Try.func18 (by kernel_rfl) rfl #[.slice A0 l0.length c0, .agg #[.int .i64 a1_0, .int .i64 a1_1, .string a1_2, .string a1_3, .int .i64 a1_4, .int .i64 a1_5, .int .i64 a1_6]] rfl am_ ?_; (with_reducible refine (hopmeshref14_Compress.calls _ _ l0 a1_0 a1_1 a1_2 a1_3 a1_4 a1_5 a1_6 t175 t176 _ ?side1 ?side2 A21.out).mono ?_); (case side1 => repeat (first | exact (Kd.C_below HR0.out HB.out) | (with_reducible refine Kd.C_alloc ?_ _) | (with_reducible refine Kd.C_drewN ?_ _) | (with_reducible refine Kd.C_drew ?_))); (case side2 => exact HC0.out); rintro e w72 ⟨rfl, hb⟩; refine ⟨_, rfl, ?_⟩; have n0_ := Aside0.mk (Kd.R_below (kr_ HO165) hb); have n1_ := Aside0.mk (Kd.R_below (kr_ HO172) hb); have n2_ := bk_ BK159 hb; have n3_ := Aside0.mk (below_step hb_ hb); clear HO165; clear HO172; clear BK159; clear HB; have HO165 := n0_; have HO172 := n1_; have BK159 := n2_; have HB := n3_; clear n0_ n1_ n2_ n3_; (try clear hb); (try clear hb2); (try clear hk); (try clear hi)))
            have n0_ := Aside0.mk (Kd.R_drew HO165.out)
            have n1_ := Aside0.mk (Kd.R_drew HO172.out)
            have n2_ := Aside0.mk (blk_drew BK159.out)
            have n3_ := Aside0.mk (below_drew1 HB.out)
            clear HO165
            clear HO172
            clear BK159
            clear HB
            have HO165 := n0_
            have HO172 := n1_
            have BK159 := n2_
            have HB := n3_
            clear n0_ n1_ n2_ n3_
            refine start_ (n := 9) (S := fun w' => w'.cell? ⟨gb159, 0, none⟩ = some (.int .i64 a1_0) ∧ w'.cell? ⟨gb159, 1, none⟩ = some (.int .i64 a1_1) ∧ w'.cell? ⟨gb159, 2, none⟩ = some (.string a1_2) ∧ w'.cell? ⟨gb159, 3, none⟩ = some (.string a1_3) ∧ w'.cell? ⟨gb159, 4, none⟩ = some (.int .i64 a1_4) ∧ w'.cell? ⟨gb159, 5, none⟩ = some (.int .i64 a1_5) ∧ w'.cell? ⟨gb159, 6, none⟩ = some (.int .i64 a1_6)) (ds := []) #[false, false, false, false, false, false, false, false, false] (by kernel_rfl) rfl rfl ⟨(blk_cell BK159.out 0).trans rfl, (blk_cell BK159.out 1).trans rfl, (blk_cell BK159.out 2).trans rfl, (blk_cell BK159.out 3).trans rfl, (blk_cell BK159.out 4).trans rfl, (blk_cell BK159.out 5).trans rfl, (blk_cell BK159.out 6).trans rfl⟩ (fun hHeld => ?_); refine with_tabW hopmeshlaw14_CompressWrites.tab9 hopmeshlaw14_CompressWrites.bits9 (fun HT_ HW_ => ?_)
            generalize w72.drew = w73 at HO165 HO172 BK159 HB hHeld ⊢
            refine pu_ HT_ 0 56 (bl 9 1) ?_
            refine tk_ HT_ HW_ hHeld 2 58 (bl 9 5) ?_
            refine one_ (i := 1) (N := some 57) (bl 9 7) rfl rfl (one_of HT_.out (by kernel_rfl)) (by decide) (fun K hK => ?_)
            refine goes_ Try.func14 (by kernel_rfl) rfl #[.slice A0 l0.length c0] (by rfl) rfl rfl am_ ?_
            with_reducible refine (api_Context.calls _ _ l0 t177 _ ?side1 ?side2 A22.out).mono ?_
            (case side1 => repeat (first | exact (Kd.C_below HR0.out HB.out) | (with_reducible refine Kd.C_alloc ?_ _) | (with_reducible refine Kd.C_drewN ?_ _) | (with_reducible refine Kd.C_drew ?_)))
            (case side2 => exact HC0.out)
            rintro e w74 ⟨v178, rfl, ho0, hb⟩
            refine ⟨_, rfl, ?_⟩
            have n0_ := Aside0.mk (Kd.R_elder' (kr_ HO165) (Kd.R_base ho0) hb)
            have n1_ := Aside0.mk (Kd.R_elder' (kr_ HO172) (Kd.R_base ho0) hb)
            have n2_ := Aside0.mk (Kd.R_lower (Kd.R_new' (Kd.R_new' ho0 (Kd.R_lt (kr_ HO165))) (Kd.R_lt (kr_ HO172))) (below_size hb_))
            have n3_ := bk_ BK159 hb
            have n4_ := Aside0.mk (below_step hb_ hb)
            clear HO165
            clear HO172
            clear BK159
            clear HB
            have HO165 := n0_
            have HO172 := n1_
            have HO179 := n2_
            have BK159 := n3_
            have HB := n4_
            clear n0_ n1_ n2_ n3_ n4_
            (try clear hb)
            (try clear hb2)
            (try clear hk)
            (try clear hi)
            (try clear ho0)
            obtain ⟨Ao75, co75, eo75⟩ := Kd.R_slice HO179.out
            (first | subst eo75 | (injection eo75 with f1_ f2_ f3_; have f4_ := f1_.symm; have f5_ := f3_.symm; clear f1_ f2_ f3_; subst f4_; subst f5_))
            refine hK.out _ _ ⟨(blk_cell BK159.out 0).trans rfl, (blk_cell BK159.out 1).trans rfl, (blk_cell BK159.out 2).trans rfl, (blk_cell BK159.out 3).trans rfl, (blk_cell BK159.out 4).trans rfl, (blk_cell BK159.out 5).trans rfl, (blk_cell BK159.out 6).trans rfl⟩ (fun hHeld => ?_)
            clear hK K
            refine norm_ (a' := ?_) ?_ ?_
            rotate_left
            ·
             show Act.put _ (some 57) _ = _
             simp only [ap_, s0_, s1_, i64_w]
             rfl
            refine one_ (i := 3) (N := some 59) (bl 9 15) rfl rfl (one_of HT_.out (by kernel_rfl)) (by decide) (fun K hK => ?_)
            refine goes_ Try.func13 (by kernel_rfl) rfl #[.slice Ao75 t177.length co75, .agg #[.int .i64 a1_0, .int .i64 a1_1, .string a1_2, .string a1_3, .int .i64 a1_4, .int .i64 a1_5, .int .i64 a1_6]] (by rfl) rfl rfl am_ ?_
            with_reducible refine (compress_Bits.calls _ _ t177 a1_0 a1_1 a1_2 a1_3 a1_4 a1_5 a1_6 t180 t181 _ ?side1 ?side2 A23.out).mono ?_
            (case side1 => repeat (first | exact (Kd.R_reads' HO179.out).2.2 | (with_reducible refine Kd.C_alloc ?_ _) | (with_reducible refine Kd.C_drewN ?_ _) | (with_reducible refine Kd.C_drew ?_)))
            (case side2 => exact (Kd.R_reads' HO179.out).2.1)
            rintro e w76 ⟨rfl, hb⟩
            refine ⟨_, rfl, ?_⟩
            have n0_ := Aside0.mk (Kd.R_below (kr_ HO165) hb)
            have n1_ := Aside0.mk (Kd.R_below (kr_ HO172) hb)
            have n2_ := Aside0.mk (Kd.R_below (kr_ HO179) hb)
            have n3_ := bk_ BK159 hb
            have n4_ := Aside0.mk (below_step hb_ hb)
            clear HO165
            clear HO172
            clear HO179
            clear BK159
            clear HB
            have HO165 := n0_
            have HO172 := n1_
            have HO179 := n2_
            have BK159 := n3_
            have HB := n4_
            clear n0_ n1_ n2_ n3_ n4_
            (try clear hb)
            (try clear hb2)
            (try clear hk)
            (try clear hi)
            refine hK.out _ _ ⟨(blk_cell BK159.out 0).trans rfl, (blk_cell BK159.out 1).trans rfl, (blk_cell BK159.out 2).trans rfl, (blk_cell BK159.out 3).trans rfl, (blk_cell BK159.out 4).trans rfl, (blk_cell BK159.out 5).trans rfl, (blk_cell BK159.out 6).trans rfl⟩ (fun hHeld => ?_)
            clear hK K
            refine norm_ (a' := ?_) ?_ ?_
            rotate_left
            ·
             show Act.put _ (some 59) _ = _
             simp only [ap_, s0_, s1_, i64_w]
             rfl
            refine pu_ HT_ 4 55 (bl 9 31) ?_
            refine pu_ HT_ 5 60 (bl 9 63) ?_
            refine pu_ HT_ 6 61 (bl 9 127) ?_
            refine pu_ HT_ 7 13 (bl 9 255) ?_
            refine pu_ HT_ 8 14 (bl 9 511) ?_
            refine done_ (done_of HT_.out (by kernel_rfl)) ?_
            have hcz77_0 := bc0 BK159
            have hcz77_1 := bc1 BK159
            have hcz77_2 := bc2 BK159
            have hcz77_3 := bc3 BK159
            have hcz77_4 := bc4 BK159
            have hcz77_5 := bc5 BK159
            have hcz77_6 := bc6 BK159
            have hfz77_0 := blk_frozen BK159.out 0
            have hfz77_1 := blk_frozen BK159.out 1
            have hfz77_2 := blk_frozen BK159.out 2
            have hfz77_3 := blk_frozen BK159.out 3
            have hfz77_4 := blk_frozen BK159.out 4
            have hfz77_5 := blk_frozen BK159.out 5
            have hfz77_6 := blk_frozen BK159.out 6
            try go_wp2_with (first | ((with_reducible refine gate_callee (f := 19) rfl ?_); refine goesL_ (some 65) rfl rfl Try.func19 (by kernel_rfl) rfl #[.slice A0 l0.length c0, .agg #[.int .i64 a1_0, .int .i64 a1_1, .string a1_2, .string a1_3, .int .i64 a1_4, .int .i64 a1_5, .int .i64 a1_6]] rfl am_ ?_; (with_reducible refine (hopmeshref14_Bits.calls _ _ l0 a1_0 a1_1 a1_2 a1_3 a1_4 a1_5 a1_6 t182 t183 _ ?side1 ?side2 A24.out).mono ?_); (case side1 => repeat (first | exact (Kd.C_below HR0.out HB.out) | (with_reducible refine Kd.C_alloc ?_ _) | (with_reducible refine Kd.C_drewN ?_ _) | (with_reducible refine Kd.C_drew ?_))); (case side2 => exact HC0.out); rintro e w78 ⟨rfl, hb⟩; refine ⟨_, rfl, ?_⟩; have n0_ := Aside0.mk (Kd.R_below (kr_ HO165) hb); have n1_ := Aside0.mk (Kd.R_below (kr_ HO172) hb); have n2_ := Aside0.mk (Kd.R_below (kr_ HO179) hb); have n3_ := bk_ BK159 hb; have n4_ := Aside0.mk (below_step hb_ hb); clear HO165; clear HO172; clear HO179; clear BK159; clear HB; have HO165 := n0_; have HO172 := n1_; have HO179 := n2_; have BK159 := n3_; have HB := n4_; clear n0_ n1_ n2_ n3_ n4_; (try clear hb); (try clear hb2); (try clear hk); (try clear hi)))
            have n0_ := Aside0.mk (Kd.R_drew HO165.out)
            have n1_ := Aside0.mk (Kd.R_drew HO172.out)
            have n2_ := Aside0.mk (Kd.R_drew HO179.out)
            have n3_ := Aside0.mk (blk_drew BK159.out)
            have n4_ := Aside0.mk (below_drew1 HB.out)
            clear HO165
            clear HO172
            clear HO179
            clear BK159
            clear HB
            have HO165 := n0_
            have HO172 := n1_
            have HO179 := n2_
            have BK159 := n3_
            have HB := n4_
            clear n0_ n1_ n2_ n3_ n4_
            refine start_ (n := 44) (S := fun w' => w'.cell? ⟨gb159, 0, none⟩ = some (.int .i64 a1_0) ∧ w'.cell? ⟨gb159, 1, none⟩ = some (.int .i64 a1_1) ∧ w'.cell? ⟨gb159, 2, none⟩ = some (.string a1_2) ∧ w'.cell? ⟨gb159, 3, none⟩ = some (.string a1_3) ∧ w'.cell? ⟨gb159, 4, none⟩ = some (.int .i64 a1_4) ∧ w'.cell? ⟨gb159, 5, none⟩ = some (.int .i64 a1_5) ∧ w'.cell? ⟨gb159, 6, none⟩ = some (.int .i64 a1_6)) (ds := []) #[false, false, false, false, false, false, false, false, false, false, false, false, false, false, false, false, false, false, false, false, false, false, false, false, false, false, false, false, false, false, false, false, false, false, false, false, false, false, false, false, false, false, false, false] (by kernel_rfl) rfl rfl ⟨(blk_cell BK159.out 0).trans rfl, (blk_cell BK159.out 1).trans rfl, (blk_cell BK159.out 2).trans rfl, (blk_cell BK159.out 3).trans rfl, (blk_cell BK159.out 4).trans rfl, (blk_cell BK159.out 5).trans rfl, (blk_cell BK159.out 6).trans rfl⟩ (fun hHeld => ?_); refine with_tabW hopmeshlaw14_CompressWrites.tab11 hopmeshlaw14_CompressWrites.bits11 (fun HT_ HW_ => ?_)
            generalize w78.drew = w79 at HO165 HO172 HO179 BK159 HB hHeld ⊢
            refine tk_ HT_ HW_ hHeld 0 68 (bl 44 1) ?_
            refine tk_ HT_ HW_ hHeld 2 70 (bl 44 5) ?_
            refine one_ (i := 1) (N := some 69) (bl 44 7) rfl rfl (one_of HT_.out (by kernel_rfl)) (by decide) (fun K hK => ?_)
            refine goes_ Try.func20 (by kernel_rfl) rfl #[.agg #[.int .i64 a1_0, .int .i64 a1_1, .string a1_2, .string a1_3, .int .i64 a1_4, .int .i64 a1_5, .int .i64 a1_6]] (by rfl) rfl rfl am_ ?_
            with_reducible refine (compress_Check.calls kj4 a1_0 a1_1 a1_2 a1_3 a1_4 a1_5 a1_6 t184 _ A25.out).mono ?_
            rintro e w80 ⟨rfl, hb⟩
            refine ⟨_, rfl, ?_⟩
            have n0_ := Aside0.mk (Kd.R_below (kr_ HO165) hb)
            have n1_ := Aside0.mk (Kd.R_below (kr_ HO172) hb)
            have n2_ := Aside0.mk (Kd.R_below (kr_ HO179) hb)
            have n3_ := bk_ BK159 hb
            have n4_ := Aside0.mk (below_step hb_ hb)
            clear HO165
            clear HO172
            clear HO179
            clear BK159
            clear HB
            have HO165 := n0_
            have HO172 := n1_
            have HO179 := n2_
            have BK159 := n3_
            have HB := n4_
            clear n0_ n1_ n2_ n3_ n4_
            (try clear hb)
            (try clear hb2)
            (try clear hk)
            (try clear hi)
            refine hK.out _ _ ⟨(blk_cell BK159.out 0).trans rfl, (blk_cell BK159.out 1).trans rfl, (blk_cell BK159.out 2).trans rfl, (blk_cell BK159.out 3).trans rfl, (blk_cell BK159.out 4).trans rfl, (blk_cell BK159.out 5).trans rfl, (blk_cell BK159.out 6).trans rfl⟩ (fun hHeld => ?_)
            clear hK K
            refine norm_ (a' := ?_) ?_ ?_
            rotate_left
            ·
             show Act.put _ (some 69) _ = _
             simp only [ap_, s0_, s1_, i64_w]
             rfl
            refine one_ (i := 3) (N := some 71) (bl 44 15) rfl rfl (one_of HT_.out (by kernel_rfl)) (by decide) (fun K hK => ?_)
            refine goes_ Try.func21 (by kernel_rfl) rfl #[.agg #[.int .i64 a1_0, .int .i64 a1_1, .string a1_2, .string a1_3, .int .i64 a1_4, .int .i64 a1_5, .int .i64 a1_6]] (by rfl) rfl rfl am_ ?_
            with_reducible refine (hopmeshref14_Check.calls kj4 a1_0 a1_1 a1_2 a1_3 a1_4 a1_5 a1_6 t185 _ A26.out).mono ?_
            rintro e w81 ⟨rfl, hb⟩
            refine ⟨_, rfl, ?_⟩
            have n0_ := Aside0.mk (Kd.R_below (kr_ HO165) hb)
            have n1_ := Aside0.mk (Kd.R_below (kr_ HO172) hb)
            have n2_ := Aside0.mk (Kd.R_below (kr_ HO179) hb)
            have n3_ := bk_ BK159 hb
            have n4_ := Aside0.mk (below_step hb_ hb)
            clear HO165
            clear HO172
            clear HO179
            clear BK159
            clear HB
            have HO165 := n0_
            have HO172 := n1_
            have HO179 := n2_
            have BK159 := n3_
            have HB := n4_
            clear n0_ n1_ n2_ n3_ n4_
            (try clear hb)
            (try clear hb2)
            (try clear hk)
            (try clear hi)
            refine hK.out _ _ ⟨(blk_cell BK159.out 0).trans rfl, (blk_cell BK159.out 1).trans rfl, (blk_cell BK159.out 2).trans rfl, (blk_cell BK159.out 3).trans rfl, (blk_cell BK159.out 4).trans rfl, (blk_cell BK159.out 5).trans rfl, (blk_cell BK159.out 6).trans rfl⟩ (fun hHeld => ?_)
            clear hK K
            refine norm_ (a' := ?_) ?_ ?_
            rotate_left
            ·
             show Act.put _ (some 71) _ = _
             simp only [ap_, s0_, s1_, i64_w]
             rfl
            refine pu_ HT_ 4 72 (bl 44 31) ?_
            refine pu_ HT_ 5 73 (bl 44 63) ?_
            refine pu_ HT_ 6 74 (bl 44 127) ?_
            refine pu_ HT_ 9 77 (bl 44 639) ?_
            refine one_ (i := 7) (N := some 75) (bl 44 767) rfl rfl (one_of HT_.out (by kernel_rfl)) (by decide) (fun K hK => ?_)
            refine goes_ Try.func14 (by kernel_rfl) rfl #[.slice A0 l0.length c0] (by rfl) rfl rfl am_ ?_
            with_reducible refine (api_Context.calls _ _ l0 t186 _ ?side1 ?side2 A28.out).mono ?_
            (case side1 => repeat (first | exact (Kd.C_below HR0.out HB.out) | (with_reducible refine Kd.C_alloc ?_ _) | (with_reducible refine Kd.C_drewN ?_ _) | (with_reducible refine Kd.C_drew ?_)))
            (case side2 => exact HC0.out)
            rintro e w82 ⟨v187, rfl, ho0, hb⟩
            refine ⟨_, rfl, ?_⟩
            have n0_ := Aside0.mk (Kd.R_elder' (kr_ HO165) (Kd.R_base ho0) hb)
            have n1_ := Aside0.mk (Kd.R_elder' (kr_ HO172) (Kd.R_base ho0) hb)
            have n2_ := Aside0.mk (Kd.R_elder' (kr_ HO179) (Kd.R_base ho0) hb)
            have n3_ := Aside0.mk (Kd.R_lower (Kd.R_new' (Kd.R_new' (Kd.R_new' ho0 (Kd.R_lt (kr_ HO165))) (Kd.R_lt (kr_ HO172))) (Kd.R_lt (kr_ HO179))) (below_size hb_))
            have n4_ := bk_ BK159 hb
            have n5_ := Aside0.mk (below_step hb_ hb)
            clear HO165
            clear HO172
            clear HO179
            clear BK159
            clear HB
            have HO165 := n0_
            have HO172 := n1_
            have HO179 := n2_
            have HO188 := n3_
            have BK159 := n4_
            have HB := n5_
            clear n0_ n1_ n2_ n3_ n4_ n5_
            (try clear hb)
            (try clear hb2)
            (try clear hk)
            (try clear hi)
            (try clear ho0)
            obtain ⟨Ao83, co83, eo83⟩ := Kd.R_slice HO188.out
            (first | subst eo83 | (injection eo83 with f1_ f2_ f3_; have f4_ := f1_.symm; have f5_ := f3_.symm; clear f1_ f2_ f3_; subst f4_; subst f5_))
            refine hK.out _ _ ⟨(blk_cell BK159.out 0).trans rfl, (blk_cell BK159.out 1).trans rfl, (blk_cell BK159.out 2).trans rfl, (blk_cell BK159.out 3).trans rfl, (blk_cell BK159.out 4).trans rfl, (blk_cell BK159.out 5).trans rfl, (blk_cell BK159.out 6).trans rfl⟩ (fun hHeld => ?_)
            clear hK K
            refine norm_ (a' := ?_) ?_ ?_
            rotate_left
            ·
             show Act.put _ (some 75) _ = _
             simp only [ap_, s0_, s1_, i64_w]
             rfl
            refine one_ (i := 8) (N := some 76) (bl 44 1023) rfl rfl (one_of HT_.out (by kernel_rfl)) (by decide) (fun K hK => ?_)
            refine goes_ Try.func22 (by kernel_rfl) rfl #[.slice Ao83 t186.length co83] (by rfl) rfl rfl am_ ?_
            with_reducible refine (compress_Contexts.calls _ _ t186 t189 _ ?side1 ?side2 A29.out).mono ?_
            (case side1 => repeat (first | exact (Kd.R_reads' HO188.out).2.2 | (with_reducible refine Kd.C_alloc ?_ _) | (with_reducible refine Kd.C_drewN ?_ _) | (with_reducible refine Kd.C_drew ?_)))
            (case side2 => exact (Kd.R_reads' HO188.out).2.1)
            rintro e w84 ⟨rfl, hb⟩
            refine ⟨_, rfl, ?_⟩
            have n0_ := Aside0.mk (Kd.R_below (kr_ HO165) hb)
            have n1_ := Aside0.mk (Kd.R_below (kr_ HO172) hb)
            have n2_ := Aside0.mk (Kd.R_below (kr_ HO179) hb)
            have n3_ := Aside0.mk (Kd.R_below (kr_ HO188) hb)
            have n4_ := bk_ BK159 hb
            have n5_ := Aside0.mk (below_step hb_ hb)
            clear HO165
            clear HO172
            clear HO179
            clear HO188
            clear BK159
            clear HB
            have HO165 := n0_
            have HO172 := n1_
            have HO179 := n2_
            have HO188 := n3_
            have BK159 := n4_
            have HB := n5_
            clear n0_ n1_ n2_ n3_ n4_ n5_
            (try clear hb)
            (try clear hb2)
            (try clear hk)
            (try clear hi)
            refine hK.out _ _ ⟨(blk_cell BK159.out 0).trans rfl, (blk_cell BK159.out 1).trans rfl, (blk_cell BK159.out 2).trans rfl, (blk_cell BK159.out 3).trans rfl, (blk_cell BK159.out 4).trans rfl, (blk_cell BK159.out 5).trans rfl, (blk_cell BK159.out 6).trans rfl⟩ (fun hHeld => ?_)
            clear hK K
            refine norm_ (a' := ?_) ?_ ?_
            rotate_left
            ·
             show Act.put _ (some 76) _ = _
             simp only [ap_, s0_, s1_, i64_w]
             rfl
            refine one_ (i := 10) (N := some 78) (bl 44 2047) rfl rfl (one_of HT_.out (by kernel_rfl)) (by decide) (fun K hK => ?_)
            refine goes_ Try.func23 (by kernel_rfl) rfl #[.slice A0 l0.length c0] (by rfl) rfl rfl am_ ?_
            with_reducible refine (hopmeshref14_Contexts.calls kj4 _ _ l0 t190 _ ?side1 ?side2 A30.out).mono ?_
            (case side1 => repeat (first | exact (Kd.C_below HR0.out HB.out) | (with_reducible refine Kd.C_alloc ?_ _) | (with_reducible refine Kd.C_drewN ?_ _) | (with_reducible refine Kd.C_drew ?_)))
            (case side2 => exact HC0.out)
            rintro e w' ⟨rfl, ⟨nd, rfl⟩⟩
            refine ⟨_, rfl, ?_⟩
            refine hK.out _ _ ⟨(blk_cell BK159.out 0).trans rfl, (blk_cell BK159.out 1).trans rfl, (blk_cell BK159.out 2).trans rfl, (blk_cell BK159.out 3).trans rfl, (blk_cell BK159.out 4).trans rfl, (blk_cell BK159.out 5).trans rfl, (blk_cell BK159.out 6).trans rfl⟩ (fun hHeld => ?_)
            clear hK K
            refine norm_ (a' := ?_) ?_ ?_
            rotate_left
            ·
             show Act.put _ (some 78) _ = _
             simp only [ap_, s0_, s1_, i64_w]
             rfl
            refine pu_ HT_ 11 79 (bl 44 4095) ?_
            refine pu_ HT_ 12 80 (bl 44 8191) ?_
            refine pu_ HT_ 13 81 (bl 44 16383) ?_
            refine pu_ HT_ 14 82 (bl 44 32767) ?_
            refine pu_ HT_ 15 83 (bl 44 65535) ?_
            refine pu_ HT_ 16 84 (bl 44 131071) ?_
            refine pu_ HT_ 17 85 (bl 44 262143) ?_
            refine pu_ HT_ 18 86 (bl 44 524287) ?_
            refine pu_ HT_ 19 87 (bl 44 1048575) ?_
            refine pu_ HT_ 20 88 (bl 44 2097151) ?_
            refine pu_ HT_ 21 89 (bl 44 4194303) ?_
            refine pu_ HT_ 22 90 (bl 44 8388607) ?_
            refine pu_ HT_ 23 91 (bl 44 16777215) ?_
            refine pu_ HT_ 24 92 (bl 44 33554431) ?_
            refine pu_ HT_ 25 93 (bl 44 67108863) ?_
            refine pu_ HT_ 26 94 (bl 44 134217727) ?_
            refine pu_ HT_ 27 95 (bl 44 268435455) ?_
            refine pu_ HT_ 28 96 (bl 44 536870911) ?_
            refine pu_ HT_ 29 97 (bl 44 1073741823) ?_
            refine pu_ HT_ 30 98 (bl 44 2147483647) ?_
            refine pu_ HT_ 31 99 (bl 44 4294967295) ?_
            refine pu_ HT_ 32 100 (bl 44 8589934591) ?_
            refine pu_ HT_ 33 101 (bl 44 17179869183) ?_
            refine pu_ HT_ 34 102 (bl 44 34359738367) ?_
            refine pu_ HT_ 35 103 (bl 44 68719476735) ?_
            refine pu_ HT_ 36 104 (bl 44 137438953471) ?_
            refine pu_ HT_ 37 105 (bl 44 274877906943) ?_
            refine pu_ HT_ 38 106 (bl 44 549755813887) ?_
            refine of_ HT_ 39 107 (bl 44 1099511627775) ?_
            refine of_ HT_ 40 108 (bl 44 2199023255551) ?_
            refine of_ HT_ 41 109 (bl 44 4398046511103) ?_
            refine pu_ HT_ 42 110 (bl 44 8796093022207) ?_
            refine pu_ HT_ 43 4 (bl 44 17592186044415) ?_
            refine done_ (done_of HT_.out (by kernel_rfl)) ?_
            try go_wp2
            go_ret
            exact ⟨er_, hb_⟩
          ·
           rw [if_neg c35] at H
           have c35b0 : (t174 == t176) = false := beq_eq_false_iff_ne.mpr c35
           have c35b1 : (t174 != t176) = true := bne_iff_ne.mpr c35
           obtain rfl := Option.some.inj H
           try go_wp2
           have n0_ := Aside0.mk (blk_drew BK159.out)
           have n1_ := Aside0.mk (below_drew1 HB.out)
           clear BK159
           clear HB
           have BK159 := n0_
           have HB := n1_
           clear n0_ n1_
           refine start_ (n := 10) (S := fun w' => w'.cell? ⟨gb159, 0, none⟩ = some (.int .i64 a1_0) ∧ w'.cell? ⟨gb159, 1, none⟩ = some (.int .i64 a1_1) ∧ w'.cell? ⟨gb159, 2, none⟩ = some (.string a1_2) ∧ w'.cell? ⟨gb159, 3, none⟩ = some (.string a1_3) ∧ w'.cell? ⟨gb159, 4, none⟩ = some (.int .i64 a1_4) ∧ w'.cell? ⟨gb159, 5, none⟩ = some (.int .i64 a1_5) ∧ w'.cell? ⟨gb159, 6, none⟩ = some (.int .i64 a1_6)) (ds := []) #[false, false, false, false, false, false, false, false, false, false] (by kernel_rfl) rfl rfl ⟨(blk_cell BK159.out 0).trans rfl, (blk_cell BK159.out 1).trans rfl, (blk_cell BK159.out 2).trans rfl, (blk_cell BK159.out 3).trans rfl, (blk_cell BK159.out 4).trans rfl, (blk_cell BK159.out 5).trans rfl, (blk_cell BK159.out 6).trans rfl⟩ (fun hHeld => ?_); refine with_tabW hopmeshlaw14_CompressWrites.tab5 hopmeshlaw14_CompressWrites.bits5 (fun HT_ HW_ => ?_)
           generalize wc.drew = w85 at BK159 HB hHeld ⊢
           refine pu_ HT_ 0 28 (bl 10 1) ?_
           refine pu_ HT_ 2 30 (bl 10 5) ?_
           refine tk_ HT_ HW_ hHeld 3 31 (bl 10 13) ?_
           refine one_ (i := 1) (N := some 29) (bl 10 15) rfl rfl (one_of HT_.out (by kernel_rfl)) (by decide) (fun K hK => ?_)
           refine goes_ Try.func14 (by kernel_rfl) rfl #[.slice A0 l0.length c0] (by rfl) rfl rfl am_ ?_
           with_reducible refine (api_Context.calls _ _ l0 t163 _ ?side1 ?side2 A16.out).mono ?_
           (case side1 => repeat (first | exact (Kd.C_below HR0.out HB.out) | (with_reducible refine Kd.C_alloc ?_ _) | (with_reducible refine Kd.C_drewN ?_ _) | (with_reducible refine Kd.C_drew ?_)))
           (case side2 => exact HC0.out)
           rintro e w86 ⟨v164, rfl, ho0, hb⟩
           refine ⟨_, rfl, ?_⟩
           have n0_ := Aside0.mk (Kd.R_lower ho0 (below_size hb_))
           have n1_ := bk_ BK159 hb
           have n2_ := Aside0.mk (below_step hb_ hb)
           clear BK159
           clear HB
           have HO165 := n0_
           have BK159 := n1_
           have HB := n2_
           clear n0_ n1_ n2_
           (try clear hb)
           (try clear hb2)
           (try clear hk)
           (try clear hi)
           (try clear ho0)
           obtain ⟨Ao87, co87, eo87⟩ := Kd.R_slice HO165.out
           (first | subst eo87 | (injection eo87 with f1_ f2_ f3_; have f4_ := f1_.symm; have f5_ := f3_.symm; clear f1_ f2_ f3_; subst f4_; subst f5_))
           refine hK.out _ _ ⟨(blk_cell BK159.out 0).trans rfl, (blk_cell BK159.out 1).trans rfl, (blk_cell BK159.out 2).trans rfl, (blk_cell BK159.out 3).trans rfl, (blk_cell BK159.out 4).trans rfl, (blk_cell BK159.out 5).trans rfl, (blk_cell BK159.out 6).trans rfl⟩ (fun hHeld => ?_)
           clear hK K
           refine norm_ (a' := ?_) ?_ ?_
           rotate_left
           ·
            show Act.put _ (some 29) _ = _
            simp only [ap_, s0_, s1_, i64_w]
            rfl
           refine one_ (i := 4) (N := some 32) (bl 10 31) rfl rfl (one_of HT_.out (by kernel_rfl)) (by decide) (fun K hK => ?_)
           refine goes_ Try.func15 (by kernel_rfl) rfl #[.slice Ao87 t163.length co87, .string a1_2] (by rfl) rfl rfl am_ ?_
           with_reducible refine (compress_Find.calls kj4 _ _ t163 a1_2 t166 t167 _ ?side1 ?side2 A17.out).mono ?_
           (case side1 => repeat (first | exact (Kd.R_reads' HO165.out).2.2 | (with_reducible refine Kd.C_alloc ?_ _) | (with_reducible refine Kd.C_drewN ?_ _) | (with_reducible refine Kd.C_drew ?_)))
           (case side2 => exact (Kd.R_reads' HO165.out).2.1)
           rintro e w88 ⟨rfl, hb⟩
           refine ⟨_, rfl, ?_⟩
           have n0_ := Aside0.mk (Kd.R_below (kr_ HO165) hb)
           have n1_ := bk_ BK159 hb
           have n2_ := Aside0.mk (below_step hb_ hb)
           clear HO165
           clear BK159
           clear HB
           have HO165 := n0_
           have BK159 := n1_
           have HB := n2_
           clear n0_ n1_ n2_
           (try clear hb)
           (try clear hb2)
           (try clear hk)
           (try clear hi)
           refine hK.out _ _ ⟨(blk_cell BK159.out 0).trans rfl, (blk_cell BK159.out 1).trans rfl, (blk_cell BK159.out 2).trans rfl, (blk_cell BK159.out 3).trans rfl, (blk_cell BK159.out 4).trans rfl, (blk_cell BK159.out 5).trans rfl, (blk_cell BK159.out 6).trans rfl⟩ (fun hHeld => ?_)
           clear hK K
           refine norm_ (a' := ?_) ?_ ?_
           rotate_left
           ·
            show Act.put _ (some 32) _ = _
            simp only [ap_, s0_, s1_, i64_w]
            rfl
           refine pu_ HT_ 5 27 (bl 10 63) ?_
           refine pu_ HT_ 6 33 (bl 10 127) ?_
           refine pu_ HT_ 7 34 (bl 10 255) ?_
           refine pu_ HT_ 8 5 (bl 10 511) ?_
           refine pu_ HT_ 9 6 (bl 10 1023) ?_
           refine done_ (done_of HT_.out (by kernel_rfl)) ?_
           have hcz89_0 := bc0 BK159
           have hcz89_1 := bc1 BK159
           have hcz89_2 := bc2 BK159
           have hcz89_3 := bc3 BK159
           have hcz89_4 := bc4 BK159
           have hcz89_5 := bc5 BK159
           have hcz89_6 := bc6 BK159
           have hfz89_0 := blk_frozen BK159.out 0
           have hfz89_1 := blk_frozen BK159.out 1
           have hfz89_2 := blk_frozen BK159.out 2
           have hfz89_3 := blk_frozen BK159.out 3
           have hfz89_4 := blk_frozen BK159.out 4
           have hfz89_5 := blk_frozen BK159.out 5
           have hfz89_6 := blk_frozen BK159.out 6
           try go_wp2_with (first | ((with_reducible refine gate_callee (f := 16) rfl ?_); refine goesL_ (some 39) rfl rfl Try.func16 (by kernel_rfl) rfl #[.slice A0 l0.length c0, .string a1_2] rfl am_ ?_; (with_reducible refine (hopmeshref14_Find.calls kj4 _ _ l0 a1_2 t168 t169 _ ?side1 ?side2 A18.out).mono ?_); (case side1 => repeat (first | exact (Kd.C_below HR0.out HB.out) | (with_reducible refine Kd.C_alloc ?_ _) | (with_reducible refine Kd.C_drewN ?_ _) | (with_reducible refine Kd.C_drew ?_))); (case side2 => exact HC0.out); rintro e w90 ⟨rfl, hb⟩; refine ⟨_, rfl, ?_⟩; have n0_ := Aside0.mk (Kd.R_below (kr_ HO165) hb); have n1_ := bk_ BK159 hb; have n2_ := Aside0.mk (below_step hb_ hb); clear HO165; clear BK159; clear HB; have HO165 := n0_; have BK159 := n1_; have HB := n2_; clear n0_ n1_ n2_; (try clear hb); (try clear hb2); (try clear hk); (try clear hi)))
           have n0_ := Aside0.mk (Kd.R_drew HO165.out)
           have n1_ := Aside0.mk (blk_drew BK159.out)
           have n2_ := Aside0.mk (below_drew1 HB.out)
           clear HO165
           clear BK159
           clear HB
           have HO165 := n0_
           have BK159 := n1_
           have HB := n2_
           clear n0_ n1_ n2_
           refine start_ (n := 9) (S := fun w' => w'.cell? ⟨gb159, 0, none⟩ = some (.int .i64 a1_0) ∧ w'.cell? ⟨gb159, 1, none⟩ = some (.int .i64 a1_1) ∧ w'.cell? ⟨gb159, 2, none⟩ = some (.string a1_2) ∧ w'.cell? ⟨gb159, 3, none⟩ = some (.string a1_3) ∧ w'.cell? ⟨gb159, 4, none⟩ = some (.int .i64 a1_4) ∧ w'.cell? ⟨gb159, 5, none⟩ = some (.int .i64 a1_5) ∧ w'.cell? ⟨gb159, 6, none⟩ = some (.int .i64 a1_6)) (ds := []) #[false, false, false, false, false, false, false, false, false] (by kernel_rfl) rfl rfl ⟨(blk_cell BK159.out 0).trans rfl, (blk_cell BK159.out 1).trans rfl, (blk_cell BK159.out 2).trans rfl, (blk_cell BK159.out 3).trans rfl, (blk_cell BK159.out 4).trans rfl, (blk_cell BK159.out 5).trans rfl, (blk_cell BK159.out 6).trans rfl⟩ (fun hHeld => ?_); refine with_tabW hopmeshlaw14_CompressWrites.tab7 hopmeshlaw14_CompressWrites.bits7 (fun HT_ HW_ => ?_)
           generalize w90.drew = w91 at HO165 BK159 HB hHeld ⊢
           refine pu_ HT_ 0 43 (bl 9 1) ?_
           refine tk_ HT_ HW_ hHeld 2 45 (bl 9 5) ?_
           refine one_ (i := 1) (N := some 44) (bl 9 7) rfl rfl (one_of HT_.out (by kernel_rfl)) (by decide) (fun K hK => ?_)
           refine goes_ Try.func14 (by kernel_rfl) rfl #[.slice A0 l0.length c0] (by rfl) rfl rfl am_ ?_
           with_reducible refine (api_Context.calls _ _ l0 t170 _ ?side1 ?side2 A19.out).mono ?_
           (case side1 => repeat (first | exact (Kd.C_below HR0.out HB.out) | (with_reducible refine Kd.C_alloc ?_ _) | (with_reducible refine Kd.C_drewN ?_ _) | (with_reducible refine Kd.C_drew ?_)))
           (case side2 => exact HC0.out)
           rintro e w92 ⟨v171, rfl, ho0, hb⟩
           refine ⟨_, rfl, ?_⟩
           have n0_ := Aside0.mk (Kd.R_elder' (kr_ HO165) (Kd.R_base ho0) hb)
           have n1_ := Aside0.mk (Kd.R_lower (Kd.R_new' ho0 (Kd.R_lt (kr_ HO165))) (below_size hb_))
           have n2_ := bk_ BK159 hb
           have n3_ := Aside0.mk (below_step hb_ hb)
           clear HO165
           clear BK159
           clear HB
           have HO165 := n0_
           have HO172 := n1_
           have BK159 := n2_
           have HB := n3_
           clear n0_ n1_ n2_ n3_
           (try clear hb)
           (try clear hb2)
           (try clear hk)
           (try clear hi)
           (try clear ho0)
           obtain ⟨Ao93, co93, eo93⟩ := Kd.R_slice HO172.out
           (first | subst eo93 | (injection eo93 with f1_ f2_ f3_; have f4_ := f1_.symm; have f5_ := f3_.symm; clear f1_ f2_ f3_; subst f4_; subst f5_))
           refine hK.out _ _ ⟨(blk_cell BK159.out 0).trans rfl, (blk_cell BK159.out 1).trans rfl, (blk_cell BK159.out 2).trans rfl, (blk_cell BK159.out 3).trans rfl, (blk_cell BK159.out 4).trans rfl, (blk_cell BK159.out 5).trans rfl, (blk_cell BK159.out 6).trans rfl⟩ (fun hHeld => ?_)
           clear hK K
           refine norm_ (a' := ?_) ?_ ?_
           rotate_left
           ·
            show Act.put _ (some 44) _ = _
            simp only [ap_, s0_, s1_, i64_w]
            rfl
           refine one_ (i := 3) (N := some 46) (bl 9 15) rfl rfl (one_of HT_.out (by kernel_rfl)) (by decide) (fun K hK => ?_)
           refine goes_ Try.func17 (by kernel_rfl) rfl #[.slice Ao93 t170.length co93, .agg #[.int .i64 a1_0, .int .i64 a1_1, .string a1_2, .string a1_3, .int .i64 a1_4, .int .i64 a1_5, .int .i64 a1_6]] (by rfl) rfl rfl am_ ?_
           with_reducible refine (compress_Compress.calls _ _ t170 a1_0 a1_1 a1_2 a1_3 a1_4 a1_5 a1_6 t173 t174 _ ?side1 ?side2 A20.out).mono ?_
           (case side1 => repeat (first | exact (Kd.R_reads' HO172.out).2.2 | (with_reducible refine Kd.C_alloc ?_ _) | (with_reducible refine Kd.C_drewN ?_ _) | (with_reducible refine Kd.C_drew ?_)))
           (case side2 => exact (Kd.R_reads' HO172.out).2.1)
           rintro e w94 ⟨rfl, hb⟩
           refine ⟨_, rfl, ?_⟩
           have n0_ := Aside0.mk (Kd.R_below (kr_ HO165) hb)
           have n1_ := Aside0.mk (Kd.R_below (kr_ HO172) hb)
           have n2_ := bk_ BK159 hb
           have n3_ := Aside0.mk (below_step hb_ hb)
           clear HO165
           clear HO172
           clear BK159
           clear HB
           have HO165 := n0_
           have HO172 := n1_
           have BK159 := n2_
           have HB := n3_
           clear n0_ n1_ n2_ n3_
           (try clear hb)
           (try clear hb2)
           (try clear hk)
           (try clear hi)
           refine hK.out _ _ ⟨(blk_cell BK159.out 0).trans rfl, (blk_cell BK159.out 1).trans rfl, (blk_cell BK159.out 2).trans rfl, (blk_cell BK159.out 3).trans rfl, (blk_cell BK159.out 4).trans rfl, (blk_cell BK159.out 5).trans rfl, (blk_cell BK159.out 6).trans rfl⟩ (fun hHeld => ?_)
           clear hK K
           refine norm_ (a' := ?_) ?_ ?_
           rotate_left
           ·
            show Act.put _ (some 46) _ = _
            simp only [ap_, s0_, s1_, i64_w]
            rfl
           refine pu_ HT_ 4 42 (bl 9 31) ?_
           refine pu_ HT_ 5 47 (bl 9 63) ?_
           refine pu_ HT_ 6 48 (bl 9 127) ?_
           refine pu_ HT_ 7 9 (bl 9 255) ?_
           refine pu_ HT_ 8 10 (bl 9 511) ?_
           refine done_ (done_of HT_.out (by kernel_rfl)) ?_
           have hcz95_0 := bc0 BK159
           have hcz95_1 := bc1 BK159
           have hcz95_2 := bc2 BK159
           have hcz95_3 := bc3 BK159
           have hcz95_4 := bc4 BK159
           have hcz95_5 := bc5 BK159
           have hcz95_6 := bc6 BK159
           have hfz95_0 := blk_frozen BK159.out 0
           have hfz95_1 := blk_frozen BK159.out 1
           have hfz95_2 := blk_frozen BK159.out 2
           have hfz95_3 := blk_frozen BK159.out 3
           have hfz95_4 := blk_frozen BK159.out 4
           have hfz95_5 := blk_frozen BK159.out 5
           have hfz95_6 := blk_frozen BK159.out 6
           try go_wp2_with (first | ((with_reducible refine gate_callee (f := 18) rfl ?_); refine goesL_ (some 52) rfl rfl Try.func18 (by kernel_rfl) rfl #[.slice A0 l0.length c0, .agg #[.int .i64 a1_0, .int .i64 a1_1, .string a1_2, .string a1_3, .int .i64 a1_4, .int .i64 a1_5, .int .i64 a1_6]] rfl am_ ?_; (with_reducible refine (hopmeshref14_Compress.calls _ _ l0 a1_0 a1_1 a1_2 a1_3 a1_4 a1_5 a1_6 t175 t176 _ ?side1 ?side2 A21.out).mono ?_); (case side1 => repeat (first | exact (Kd.C_below HR0.out HB.out) | (with_reducible refine Kd.C_alloc ?_ _) | (with_reducible refine Kd.C_drewN ?_ _) | (with_reducible refine Kd.C_drew ?_))); (case side2 => exact HC0.out); rintro e w96 ⟨rfl, hb⟩; refine ⟨_, rfl, ?_⟩; have n0_ := Aside0.mk (Kd.R_below (kr_ HO165) hb); have n1_ := Aside0.mk (Kd.R_below (kr_ HO172) hb); have n2_ := bk_ BK159 hb; have n3_ := Aside0.mk (below_step hb_ hb); clear HO165; clear HO172; clear BK159; clear HB; have HO165 := n0_; have HO172 := n1_; have BK159 := n2_; have HB := n3_; clear n0_ n1_ n2_ n3_; (try clear hb); (try clear hb2); (try clear hk); (try clear hi)))
           have n0_ := Aside0.mk (Kd.R_drew HO165.out)
           have n1_ := Aside0.mk (Kd.R_drew HO172.out)
           have n2_ := Aside0.mk (blk_drew BK159.out)
           have n3_ := Aside0.mk (below_drew1 HB.out)
           clear HO165
           clear HO172
           clear BK159
           clear HB
           have HO165 := n0_
           have HO172 := n1_
           have BK159 := n2_
           have HB := n3_
           clear n0_ n1_ n2_ n3_
           refine start_ (n := 9) (S := fun w' => w'.cell? ⟨gb159, 0, none⟩ = some (.int .i64 a1_0) ∧ w'.cell? ⟨gb159, 1, none⟩ = some (.int .i64 a1_1) ∧ w'.cell? ⟨gb159, 2, none⟩ = some (.string a1_2) ∧ w'.cell? ⟨gb159, 3, none⟩ = some (.string a1_3) ∧ w'.cell? ⟨gb159, 4, none⟩ = some (.int .i64 a1_4) ∧ w'.cell? ⟨gb159, 5, none⟩ = some (.int .i64 a1_5) ∧ w'.cell? ⟨gb159, 6, none⟩ = some (.int .i64 a1_6)) (ds := []) #[false, false, false, false, false, false, false, false, false] (by kernel_rfl) rfl rfl ⟨(blk_cell BK159.out 0).trans rfl, (blk_cell BK159.out 1).trans rfl, (blk_cell BK159.out 2).trans rfl, (blk_cell BK159.out 3).trans rfl, (blk_cell BK159.out 4).trans rfl, (blk_cell BK159.out 5).trans rfl, (blk_cell BK159.out 6).trans rfl⟩ (fun hHeld => ?_); refine with_tabW hopmeshlaw14_CompressWrites.tab9 hopmeshlaw14_CompressWrites.bits9 (fun HT_ HW_ => ?_)
           generalize w96.drew = w97 at HO165 HO172 BK159 HB hHeld ⊢
           refine pu_ HT_ 0 56 (bl 9 1) ?_
           refine tk_ HT_ HW_ hHeld 2 58 (bl 9 5) ?_
           refine one_ (i := 1) (N := some 57) (bl 9 7) rfl rfl (one_of HT_.out (by kernel_rfl)) (by decide) (fun K hK => ?_)
           refine goes_ Try.func14 (by kernel_rfl) rfl #[.slice A0 l0.length c0] (by rfl) rfl rfl am_ ?_
           with_reducible refine (api_Context.calls _ _ l0 t177 _ ?side1 ?side2 A22.out).mono ?_
           (case side1 => repeat (first | exact (Kd.C_below HR0.out HB.out) | (with_reducible refine Kd.C_alloc ?_ _) | (with_reducible refine Kd.C_drewN ?_ _) | (with_reducible refine Kd.C_drew ?_)))
           (case side2 => exact HC0.out)
           rintro e w98 ⟨v178, rfl, ho0, hb⟩
           refine ⟨_, rfl, ?_⟩
           have n0_ := Aside0.mk (Kd.R_elder' (kr_ HO165) (Kd.R_base ho0) hb)
           have n1_ := Aside0.mk (Kd.R_elder' (kr_ HO172) (Kd.R_base ho0) hb)
           have n2_ := Aside0.mk (Kd.R_lower (Kd.R_new' (Kd.R_new' ho0 (Kd.R_lt (kr_ HO165))) (Kd.R_lt (kr_ HO172))) (below_size hb_))
           have n3_ := bk_ BK159 hb
           have n4_ := Aside0.mk (below_step hb_ hb)
           clear HO165
           clear HO172
           clear BK159
           clear HB
           have HO165 := n0_
           have HO172 := n1_
           have HO179 := n2_
           have BK159 := n3_
           have HB := n4_
           clear n0_ n1_ n2_ n3_ n4_
           (try clear hb)
           (try clear hb2)
           (try clear hk)
           (try clear hi)
           (try clear ho0)
           obtain ⟨Ao99, co99, eo99⟩ := Kd.R_slice HO179.out
           (first | subst eo99 | (injection eo99 with f1_ f2_ f3_; have f4_ := f1_.symm; have f5_ := f3_.symm; clear f1_ f2_ f3_; subst f4_; subst f5_))
           refine hK.out _ _ ⟨(blk_cell BK159.out 0).trans rfl, (blk_cell BK159.out 1).trans rfl, (blk_cell BK159.out 2).trans rfl, (blk_cell BK159.out 3).trans rfl, (blk_cell BK159.out 4).trans rfl, (blk_cell BK159.out 5).trans rfl, (blk_cell BK159.out 6).trans rfl⟩ (fun hHeld => ?_)
           clear hK K
           refine norm_ (a' := ?_) ?_ ?_
           rotate_left
           ·
            show Act.put _ (some 57) _ = _
            simp only [ap_, s0_, s1_, i64_w]
            rfl
           refine one_ (i := 3) (N := some 59) (bl 9 15) rfl rfl (one_of HT_.out (by kernel_rfl)) (by decide) (fun K hK => ?_)
           refine goes_ Try.func13 (by kernel_rfl) rfl #[.slice Ao99 t177.length co99, .agg #[.int .i64 a1_0, .int .i64 a1_1, .string a1_2, .string a1_3, .int .i64 a1_4, .int .i64 a1_5, .int .i64 a1_6]] (by rfl) rfl rfl am_ ?_
           with_reducible refine (compress_Bits.calls _ _ t177 a1_0 a1_1 a1_2 a1_3 a1_4 a1_5 a1_6 t180 t181 _ ?side1 ?side2 A23.out).mono ?_
           (case side1 => repeat (first | exact (Kd.R_reads' HO179.out).2.2 | (with_reducible refine Kd.C_alloc ?_ _) | (with_reducible refine Kd.C_drewN ?_ _) | (with_reducible refine Kd.C_drew ?_)))
           (case side2 => exact (Kd.R_reads' HO179.out).2.1)
           rintro e w100 ⟨rfl, hb⟩
           refine ⟨_, rfl, ?_⟩
           have n0_ := Aside0.mk (Kd.R_below (kr_ HO165) hb)
           have n1_ := Aside0.mk (Kd.R_below (kr_ HO172) hb)
           have n2_ := Aside0.mk (Kd.R_below (kr_ HO179) hb)
           have n3_ := bk_ BK159 hb
           have n4_ := Aside0.mk (below_step hb_ hb)
           clear HO165
           clear HO172
           clear HO179
           clear BK159
           clear HB
           have HO165 := n0_
           have HO172 := n1_
           have HO179 := n2_
           have BK159 := n3_
           have HB := n4_
           clear n0_ n1_ n2_ n3_ n4_
           (try clear hb)
           (try clear hb2)
           (try clear hk)
           (try clear hi)
           refine hK.out _ _ ⟨(blk_cell BK159.out 0).trans rfl, (blk_cell BK159.out 1).trans rfl, (blk_cell BK159.out 2).trans rfl, (blk_cell BK159.out 3).trans rfl, (blk_cell BK159.out 4).trans rfl, (blk_cell BK159.out 5).trans rfl, (blk_cell BK159.out 6).trans rfl⟩ (fun hHeld => ?_)
           clear hK K
           refine norm_ (a' := ?_) ?_ ?_
           rotate_left
           ·
            show Act.put _ (some 59) _ = _
            simp only [ap_, s0_, s1_, i64_w]
            rfl
           refine pu_ HT_ 4 55 (bl 9 31) ?_
           refine pu_ HT_ 5 60 (bl 9 63) ?_
           refine pu_ HT_ 6 61 (bl 9 127) ?_
           refine pu_ HT_ 7 13 (bl 9 255) ?_
           refine pu_ HT_ 8 14 (bl 9 511) ?_
           refine done_ (done_of HT_.out (by kernel_rfl)) ?_
           have hcz101_0 := bc0 BK159
           have hcz101_1 := bc1 BK159
           have hcz101_2 := bc2 BK159
           have hcz101_3 := bc3 BK159
           have hcz101_4 := bc4 BK159
           have hcz101_5 := bc5 BK159
           have hcz101_6 := bc6 BK159
           have hfz101_0 := blk_frozen BK159.out 0
           have hfz101_1 := blk_frozen BK159.out 1
           have hfz101_2 := blk_frozen BK159.out 2
           have hfz101_3 := blk_frozen BK159.out 3
           have hfz101_4 := blk_frozen BK159.out 4
           have hfz101_5 := blk_frozen BK159.out 5
           have hfz101_6 := blk_frozen BK159.out 6
           try go_wp2_with (first | ((with_reducible refine gate_callee (f := 19) rfl ?_); refine goesL_ (some 65) rfl rfl Try.func19 (by kernel_rfl) rfl #[.slice A0 l0.length c0, .agg #[.int .i64 a1_0, .int .i64 a1_1, .string a1_2, .string a1_3, .int .i64 a1_4, .int .i64 a1_5, .int .i64 a1_6]] rfl am_ ?_; (with_reducible refine (hopmeshref14_Bits.calls _ _ l0 a1_0 a1_1 a1_2 a1_3 a1_4 a1_5 a1_6 t182 t183 _ ?side1 ?side2 A24.out).mono ?_); (case side1 => repeat (first | exact (Kd.C_below HR0.out HB.out) | (with_reducible refine Kd.C_alloc ?_ _) | (with_reducible refine Kd.C_drewN ?_ _) | (with_reducible refine Kd.C_drew ?_))); (case side2 => exact HC0.out); rintro e w102 ⟨rfl, hb⟩; refine ⟨_, rfl, ?_⟩; have n0_ := Aside0.mk (Kd.R_below (kr_ HO165) hb); have n1_ := Aside0.mk (Kd.R_below (kr_ HO172) hb); have n2_ := Aside0.mk (Kd.R_below (kr_ HO179) hb); have n3_ := bk_ BK159 hb; have n4_ := Aside0.mk (below_step hb_ hb); clear HO165; clear HO172; clear HO179; clear BK159; clear HB; have HO165 := n0_; have HO172 := n1_; have HO179 := n2_; have BK159 := n3_; have HB := n4_; clear n0_ n1_ n2_ n3_ n4_; (try clear hb); (try clear hb2); (try clear hk); (try clear hi)))
           have n0_ := Aside0.mk (Kd.R_drew HO165.out)
           have n1_ := Aside0.mk (Kd.R_drew HO172.out)
           have n2_ := Aside0.mk (Kd.R_drew HO179.out)
           have n3_ := Aside0.mk (blk_drew BK159.out)
           have n4_ := Aside0.mk (below_drew1 HB.out)
           clear HO165
           clear HO172
           clear HO179
           clear BK159
           clear HB
           have HO165 := n0_
           have HO172 := n1_
           have HO179 := n2_
           have BK159 := n3_
           have HB := n4_
           clear n0_ n1_ n2_ n3_ n4_
           refine start_ (n := 44) (S := fun w' => w'.cell? ⟨gb159, 0, none⟩ = some (.int .i64 a1_0) ∧ w'.cell? ⟨gb159, 1, none⟩ = some (.int .i64 a1_1) ∧ w'.cell? ⟨gb159, 2, none⟩ = some (.string a1_2) ∧ w'.cell? ⟨gb159, 3, none⟩ = some (.string a1_3) ∧ w'.cell? ⟨gb159, 4, none⟩ = some (.int .i64 a1_4) ∧ w'.cell? ⟨gb159, 5, none⟩ = some (.int .i64 a1_5) ∧ w'.cell? ⟨gb159, 6, none⟩ = some (.int .i64 a1_6)) (ds := []) #[false, false, false, false, false, false, false, false, false, false, false, false, false, false, false, false, false, false, false, false, false, false, false, false, false, false, false, false, false, false, false, false, false, false, false, false, false, false, false, false, false, false, false, false] (by kernel_rfl) rfl rfl ⟨(blk_cell BK159.out 0).trans rfl, (blk_cell BK159.out 1).trans rfl, (blk_cell BK159.out 2).trans rfl, (blk_cell BK159.out 3).trans rfl, (blk_cell BK159.out 4).trans rfl, (blk_cell BK159.out 5).trans rfl, (blk_cell BK159.out 6).trans rfl⟩ (fun hHeld => ?_); refine with_tabW hopmeshlaw14_CompressWrites.tab11 hopmeshlaw14_CompressWrites.bits11 (fun HT_ HW_ => ?_)
           generalize w102.drew = w103 at HO165 HO172 HO179 BK159 HB hHeld ⊢
           refine tk_ HT_ HW_ hHeld 0 68 (bl 44 1) ?_
           refine tk_ HT_ HW_ hHeld 2 70 (bl 44 5) ?_
           refine one_ (i := 1) (N := some 69) (bl 44 7) rfl rfl (one_of HT_.out (by kernel_rfl)) (by decide) (fun K hK => ?_)
           refine goes_ Try.func20 (by kernel_rfl) rfl #[.agg #[.int .i64 a1_0, .int .i64 a1_1, .string a1_2, .string a1_3, .int .i64 a1_4, .int .i64 a1_5, .int .i64 a1_6]] (by rfl) rfl rfl am_ ?_
           with_reducible refine (compress_Check.calls kj4 a1_0 a1_1 a1_2 a1_3 a1_4 a1_5 a1_6 t184 _ A25.out).mono ?_
           rintro e w104 ⟨rfl, hb⟩
           refine ⟨_, rfl, ?_⟩
           have n0_ := Aside0.mk (Kd.R_below (kr_ HO165) hb)
           have n1_ := Aside0.mk (Kd.R_below (kr_ HO172) hb)
           have n2_ := Aside0.mk (Kd.R_below (kr_ HO179) hb)
           have n3_ := bk_ BK159 hb
           have n4_ := Aside0.mk (below_step hb_ hb)
           clear HO165
           clear HO172
           clear HO179
           clear BK159
           clear HB
           have HO165 := n0_
           have HO172 := n1_
           have HO179 := n2_
           have BK159 := n3_
           have HB := n4_
           clear n0_ n1_ n2_ n3_ n4_
           (try clear hb)
           (try clear hb2)
           (try clear hk)
           (try clear hi)
           refine hK.out _ _ ⟨(blk_cell BK159.out 0).trans rfl, (blk_cell BK159.out 1).trans rfl, (blk_cell BK159.out 2).trans rfl, (blk_cell BK159.out 3).trans rfl, (blk_cell BK159.out 4).trans rfl, (blk_cell BK159.out 5).trans rfl, (blk_cell BK159.out 6).trans rfl⟩ (fun hHeld => ?_)
           clear hK K
           refine norm_ (a' := ?_) ?_ ?_
           rotate_left
           ·
            show Act.put _ (some 69) _ = _
            simp only [ap_, s0_, s1_, i64_w]
            rfl
           refine one_ (i := 3) (N := some 71) (bl 44 15) rfl rfl (one_of HT_.out (by kernel_rfl)) (by decide) (fun K hK => ?_)
           refine goes_ Try.func21 (by kernel_rfl) rfl #[.agg #[.int .i64 a1_0, .int .i64 a1_1, .string a1_2, .string a1_3, .int .i64 a1_4, .int .i64 a1_5, .int .i64 a1_6]] (by rfl) rfl rfl am_ ?_
           with_reducible refine (hopmeshref14_Check.calls kj4 a1_0 a1_1 a1_2 a1_3 a1_4 a1_5 a1_6 t185 _ A26.out).mono ?_
           rintro e w105 ⟨rfl, hb⟩
           refine ⟨_, rfl, ?_⟩
           have n0_ := Aside0.mk (Kd.R_below (kr_ HO165) hb)
           have n1_ := Aside0.mk (Kd.R_below (kr_ HO172) hb)
           have n2_ := Aside0.mk (Kd.R_below (kr_ HO179) hb)
           have n3_ := bk_ BK159 hb
           have n4_ := Aside0.mk (below_step hb_ hb)
           clear HO165
           clear HO172
           clear HO179
           clear BK159
           clear HB
           have HO165 := n0_
           have HO172 := n1_
           have HO179 := n2_
           have BK159 := n3_
           have HB := n4_
           clear n0_ n1_ n2_ n3_ n4_
           (try clear hb)
           (try clear hb2)
           (try clear hk)
           (try clear hi)
           refine hK.out _ _ ⟨(blk_cell BK159.out 0).trans rfl, (blk_cell BK159.out 1).trans rfl, (blk_cell BK159.out 2).trans rfl, (blk_cell BK159.out 3).trans rfl, (blk_cell BK159.out 4).trans rfl, (blk_cell BK159.out 5).trans rfl, (blk_cell BK159.out 6).trans rfl⟩ (fun hHeld => ?_)
           clear hK K
           refine norm_ (a' := ?_) ?_ ?_
           rotate_left
           ·
            show Act.put _ (some 71) _ = _
            simp only [ap_, s0_, s1_, i64_w]
            rfl
           refine pu_ HT_ 4 72 (bl 44 31) ?_
           refine pu_ HT_ 5 73 (bl 44 63) ?_
           refine pu_ HT_ 6 74 (bl 44 127) ?_
           refine pu_ HT_ 9 77 (bl 44 639) ?_
           refine one_ (i := 7) (N := some 75) (bl 44 767) rfl rfl (one_of HT_.out (by kernel_rfl)) (by decide) (fun K hK => ?_)
           refine goes_ Try.func14 (by kernel_rfl) rfl #[.slice A0 l0.length c0] (by rfl) rfl rfl am_ ?_
           with_reducible refine (api_Context.calls _ _ l0 t186 _ ?side1 ?side2 A28.out).mono ?_
           (case side1 => repeat (first | exact (Kd.C_below HR0.out HB.out) | (with_reducible refine Kd.C_alloc ?_ _) | (with_reducible refine Kd.C_drewN ?_ _) | (with_reducible refine Kd.C_drew ?_)))
           (case side2 => exact HC0.out)
           rintro e w106 ⟨v187, rfl, ho0, hb⟩
           refine ⟨_, rfl, ?_⟩
           have n0_ := Aside0.mk (Kd.R_elder' (kr_ HO165) (Kd.R_base ho0) hb)
           have n1_ := Aside0.mk (Kd.R_elder' (kr_ HO172) (Kd.R_base ho0) hb)
           have n2_ := Aside0.mk (Kd.R_elder' (kr_ HO179) (Kd.R_base ho0) hb)
           have n3_ := Aside0.mk (Kd.R_lower (Kd.R_new' (Kd.R_new' (Kd.R_new' ho0 (Kd.R_lt (kr_ HO165))) (Kd.R_lt (kr_ HO172))) (Kd.R_lt (kr_ HO179))) (below_size hb_))
           have n4_ := bk_ BK159 hb
           have n5_ := Aside0.mk (below_step hb_ hb)
           clear HO165
           clear HO172
           clear HO179
           clear BK159
           clear HB
           have HO165 := n0_
           have HO172 := n1_
           have HO179 := n2_
           have HO188 := n3_
           have BK159 := n4_
           have HB := n5_
           clear n0_ n1_ n2_ n3_ n4_ n5_
           (try clear hb)
           (try clear hb2)
           (try clear hk)
           (try clear hi)
           (try clear ho0)
           obtain ⟨Ao107, co107, eo107⟩ := Kd.R_slice HO188.out
           (first | subst eo107 | (injection eo107 with f1_ f2_ f3_; have f4_ := f1_.symm; have f5_ := f3_.symm; clear f1_ f2_ f3_; subst f4_; subst f5_))
           refine hK.out _ _ ⟨(blk_cell BK159.out 0).trans rfl, (blk_cell BK159.out 1).trans rfl, (blk_cell BK159.out 2).trans rfl, (blk_cell BK159.out 3).trans rfl, (blk_cell BK159.out 4).trans rfl, (blk_cell BK159.out 5).trans rfl, (blk_cell BK159.out 6).trans rfl⟩ (fun hHeld => ?_)
           clear hK K
           refine norm_ (a' := ?_) ?_ ?_
           rotate_left
           ·
            show Act.put _ (some 75) _ = _
            simp only [ap_, s0_, s1_, i64_w]
            rfl
           refine one_ (i := 8) (N := some 76) (bl 44 1023) rfl rfl (one_of HT_.out (by kernel_rfl)) (by decide) (fun K hK => ?_)
           refine goes_ Try.func22 (by kernel_rfl) rfl #[.slice Ao107 t186.length co107] (by rfl) rfl rfl am_ ?_
           with_reducible refine (compress_Contexts.calls _ _ t186 t189 _ ?side1 ?side2 A29.out).mono ?_
           (case side1 => repeat (first | exact (Kd.R_reads' HO188.out).2.2 | (with_reducible refine Kd.C_alloc ?_ _) | (with_reducible refine Kd.C_drewN ?_ _) | (with_reducible refine Kd.C_drew ?_)))
           (case side2 => exact (Kd.R_reads' HO188.out).2.1)
           rintro e w108 ⟨rfl, hb⟩
           refine ⟨_, rfl, ?_⟩
           have n0_ := Aside0.mk (Kd.R_below (kr_ HO165) hb)
           have n1_ := Aside0.mk (Kd.R_below (kr_ HO172) hb)
           have n2_ := Aside0.mk (Kd.R_below (kr_ HO179) hb)
           have n3_ := Aside0.mk (Kd.R_below (kr_ HO188) hb)
           have n4_ := bk_ BK159 hb
           have n5_ := Aside0.mk (below_step hb_ hb)
           clear HO165
           clear HO172
           clear HO179
           clear HO188
           clear BK159
           clear HB
           have HO165 := n0_
           have HO172 := n1_
           have HO179 := n2_
           have HO188 := n3_
           have BK159 := n4_
           have HB := n5_
           clear n0_ n1_ n2_ n3_ n4_ n5_
           (try clear hb)
           (try clear hb2)
           (try clear hk)
           (try clear hi)
           refine hK.out _ _ ⟨(blk_cell BK159.out 0).trans rfl, (blk_cell BK159.out 1).trans rfl, (blk_cell BK159.out 2).trans rfl, (blk_cell BK159.out 3).trans rfl, (blk_cell BK159.out 4).trans rfl, (blk_cell BK159.out 5).trans rfl, (blk_cell BK159.out 6).trans rfl⟩ (fun hHeld => ?_)
           clear hK K
           refine norm_ (a' := ?_) ?_ ?_
           rotate_left
           ·
            show Act.put _ (some 76) _ = _
            simp only [ap_, s0_, s1_, i64_w]
            rfl
           refine one_ (i := 10) (N := some 78) (bl 44 2047) rfl rfl (one_of HT_.out (by kernel_rfl)) (by decide) (fun K hK => ?_)
           refine goes_ Try.func23 (by kernel_rfl) rfl #[.slice A0 l0.length c0] (by rfl) rfl rfl am_ ?_
           with_reducible refine (hopmeshref14_Contexts.calls kj4 _ _ l0 t190 _ ?side1 ?side2 A30.out).mono ?_
           (case side1 => repeat (first | exact (Kd.C_below HR0.out HB.out) | (with_reducible refine Kd.C_alloc ?_ _) | (with_reducible refine Kd.C_drewN ?_ _) | (with_reducible refine Kd.C_drew ?_)))
           (case side2 => exact HC0.out)
           rintro e w' ⟨rfl, ⟨nd, rfl⟩⟩
           refine ⟨_, rfl, ?_⟩
           refine hK.out _ _ ⟨(blk_cell BK159.out 0).trans rfl, (blk_cell BK159.out 1).trans rfl, (blk_cell BK159.out 2).trans rfl, (blk_cell BK159.out 3).trans rfl, (blk_cell BK159.out 4).trans rfl, (blk_cell BK159.out 5).trans rfl, (blk_cell BK159.out 6).trans rfl⟩ (fun hHeld => ?_)
           clear hK K
           refine norm_ (a' := ?_) ?_ ?_
           rotate_left
           ·
            show Act.put _ (some 78) _ = _
            simp only [ap_, s0_, s1_, i64_w]
            rfl
           refine pu_ HT_ 11 79 (bl 44 4095) ?_
           refine pu_ HT_ 12 80 (bl 44 8191) ?_
           refine pu_ HT_ 13 81 (bl 44 16383) ?_
           refine pu_ HT_ 14 82 (bl 44 32767) ?_
           refine pu_ HT_ 15 83 (bl 44 65535) ?_
           refine pu_ HT_ 16 84 (bl 44 131071) ?_
           refine pu_ HT_ 17 85 (bl 44 262143) ?_
           refine pu_ HT_ 18 86 (bl 44 524287) ?_
           refine pu_ HT_ 19 87 (bl 44 1048575) ?_
           refine pu_ HT_ 20 88 (bl 44 2097151) ?_
           refine pu_ HT_ 21 89 (bl 44 4194303) ?_
           refine pu_ HT_ 22 90 (bl 44 8388607) ?_
           refine pu_ HT_ 23 91 (bl 44 16777215) ?_
           refine pu_ HT_ 24 92 (bl 44 33554431) ?_
           refine pu_ HT_ 25 93 (bl 44 67108863) ?_
           refine pu_ HT_ 26 94 (bl 44 134217727) ?_
           refine pu_ HT_ 27 95 (bl 44 268435455) ?_
           refine pu_ HT_ 28 96 (bl 44 536870911) ?_
           refine pu_ HT_ 29 97 (bl 44 1073741823) ?_
           refine pu_ HT_ 30 98 (bl 44 2147483647) ?_
           refine pu_ HT_ 31 99 (bl 44 4294967295) ?_
           refine pu_ HT_ 32 100 (bl 44 8589934591) ?_
           refine pu_ HT_ 33 101 (bl 44 17179869183) ?_
           refine of_ HT_ 34 102 (bl 44 34359738367) ?_
           refine of_ HT_ 35 103 (bl 44 68719476735) ?_
           refine of_ HT_ 36 104 (bl 44 137438953471) ?_
           refine pu_ HT_ 37 105 (bl 44 274877906943) ?_
           refine pu_ HT_ 38 106 (bl 44 549755813887) ?_
           refine of_ HT_ 39 107 (bl 44 1099511627775) ?_
           refine of_ HT_ 40 108 (bl 44 2199023255551) ?_
           refine of_ HT_ 41 109 (bl 44 4398046511103) ?_
           refine pu_ HT_ 42 110 (bl 44 8796093022207) ?_
           refine pu_ HT_ 43 4 (bl 44 17592186044415) ?_
           refine done_ (done_of HT_.out (by kernel_rfl)) ?_
           try go_wp2
           go_ret
           exact ⟨er_, hb_⟩
         ·
          rw [if_neg c34] at H
          have c34b0 : (t173.toList == t175.toList) = false := beq_eq_false_iff_ne.mpr c34
          have c34b1 : (t173.toList != t175.toList) = true := bne_iff_ne.mpr c34
          obtain rfl := Option.some.inj H
          try go_wp2
          have n0_ := Aside0.mk (blk_drew BK159.out)
          have n1_ := Aside0.mk (below_drew1 HB.out)
          clear BK159
          clear HB
          have BK159 := n0_
          have HB := n1_
          clear n0_ n1_
          refine start_ (n := 10) (S := fun w' => w'.cell? ⟨gb159, 0, none⟩ = some (.int .i64 a1_0) ∧ w'.cell? ⟨gb159, 1, none⟩ = some (.int .i64 a1_1) ∧ w'.cell? ⟨gb159, 2, none⟩ = some (.string a1_2) ∧ w'.cell? ⟨gb159, 3, none⟩ = some (.string a1_3) ∧ w'.cell? ⟨gb159, 4, none⟩ = some (.int .i64 a1_4) ∧ w'.cell? ⟨gb159, 5, none⟩ = some (.int .i64 a1_5) ∧ w'.cell? ⟨gb159, 6, none⟩ = some (.int .i64 a1_6)) (ds := []) #[false, false, false, false, false, false, false, false, false, false] (by kernel_rfl) rfl rfl ⟨(blk_cell BK159.out 0).trans rfl, (blk_cell BK159.out 1).trans rfl, (blk_cell BK159.out 2).trans rfl, (blk_cell BK159.out 3).trans rfl, (blk_cell BK159.out 4).trans rfl, (blk_cell BK159.out 5).trans rfl, (blk_cell BK159.out 6).trans rfl⟩ (fun hHeld => ?_); refine with_tabW hopmeshlaw14_CompressWrites.tab5 hopmeshlaw14_CompressWrites.bits5 (fun HT_ HW_ => ?_)
          generalize wc.drew = w109 at BK159 HB hHeld ⊢
          refine pu_ HT_ 0 28 (bl 10 1) ?_
          refine pu_ HT_ 2 30 (bl 10 5) ?_
          refine tk_ HT_ HW_ hHeld 3 31 (bl 10 13) ?_
          refine one_ (i := 1) (N := some 29) (bl 10 15) rfl rfl (one_of HT_.out (by kernel_rfl)) (by decide) (fun K hK => ?_)
          refine goes_ Try.func14 (by kernel_rfl) rfl #[.slice A0 l0.length c0] (by rfl) rfl rfl am_ ?_
          with_reducible refine (api_Context.calls _ _ l0 t163 _ ?side1 ?side2 A16.out).mono ?_
          (case side1 => repeat (first | exact (Kd.C_below HR0.out HB.out) | (with_reducible refine Kd.C_alloc ?_ _) | (with_reducible refine Kd.C_drewN ?_ _) | (with_reducible refine Kd.C_drew ?_)))
          (case side2 => exact HC0.out)
          rintro e w110 ⟨v164, rfl, ho0, hb⟩
          refine ⟨_, rfl, ?_⟩
          have n0_ := Aside0.mk (Kd.R_lower ho0 (below_size hb_))
          have n1_ := bk_ BK159 hb
          have n2_ := Aside0.mk (below_step hb_ hb)
          clear BK159
          clear HB
          have HO165 := n0_
          have BK159 := n1_
          have HB := n2_
          clear n0_ n1_ n2_
          (try clear hb)
          (try clear hb2)
          (try clear hk)
          (try clear hi)
          (try clear ho0)
          obtain ⟨Ao111, co111, eo111⟩ := Kd.R_slice HO165.out
          (first | subst eo111 | (injection eo111 with f1_ f2_ f3_; have f4_ := f1_.symm; have f5_ := f3_.symm; clear f1_ f2_ f3_; subst f4_; subst f5_))
          refine hK.out _ _ ⟨(blk_cell BK159.out 0).trans rfl, (blk_cell BK159.out 1).trans rfl, (blk_cell BK159.out 2).trans rfl, (blk_cell BK159.out 3).trans rfl, (blk_cell BK159.out 4).trans rfl, (blk_cell BK159.out 5).trans rfl, (blk_cell BK159.out 6).trans rfl⟩ (fun hHeld => ?_)
          clear hK K
          refine norm_ (a' := ?_) ?_ ?_
          rotate_left
          ·
           show Act.put _ (some 29) _ = _
           simp only [ap_, s0_, s1_, i64_w]
           rfl
          refine one_ (i := 4) (N := some 32) (bl 10 31) rfl rfl (one_of HT_.out (by kernel_rfl)) (by decide) (fun K hK => ?_)
          refine goes_ Try.func15 (by kernel_rfl) rfl #[.slice Ao111 t163.length co111, .string a1_2] (by rfl) rfl rfl am_ ?_
          with_reducible refine (compress_Find.calls kj4 _ _ t163 a1_2 t166 t167 _ ?side1 ?side2 A17.out).mono ?_
          (case side1 => repeat (first | exact (Kd.R_reads' HO165.out).2.2 | (with_reducible refine Kd.C_alloc ?_ _) | (with_reducible refine Kd.C_drewN ?_ _) | (with_reducible refine Kd.C_drew ?_)))
          (case side2 => exact (Kd.R_reads' HO165.out).2.1)
          rintro e w112 ⟨rfl, hb⟩
          refine ⟨_, rfl, ?_⟩
          have n0_ := Aside0.mk (Kd.R_below (kr_ HO165) hb)
          have n1_ := bk_ BK159 hb
          have n2_ := Aside0.mk (below_step hb_ hb)
          clear HO165
          clear BK159
          clear HB
          have HO165 := n0_
          have BK159 := n1_
          have HB := n2_
          clear n0_ n1_ n2_
          (try clear hb)
          (try clear hb2)
          (try clear hk)
          (try clear hi)
          refine hK.out _ _ ⟨(blk_cell BK159.out 0).trans rfl, (blk_cell BK159.out 1).trans rfl, (blk_cell BK159.out 2).trans rfl, (blk_cell BK159.out 3).trans rfl, (blk_cell BK159.out 4).trans rfl, (blk_cell BK159.out 5).trans rfl, (blk_cell BK159.out 6).trans rfl⟩ (fun hHeld => ?_)
          clear hK K
          refine norm_ (a' := ?_) ?_ ?_
          rotate_left
          ·
           show Act.put _ (some 32) _ = _
           simp only [ap_, s0_, s1_, i64_w]
           rfl
          refine pu_ HT_ 5 27 (bl 10 63) ?_
          refine pu_ HT_ 6 33 (bl 10 127) ?_
          refine pu_ HT_ 7 34 (bl 10 255) ?_
          refine pu_ HT_ 8 5 (bl 10 511) ?_
          refine pu_ HT_ 9 6 (bl 10 1023) ?_
          refine done_ (done_of HT_.out (by kernel_rfl)) ?_
          have hcz113_0 := bc0 BK159
          have hcz113_1 := bc1 BK159
          have hcz113_2 := bc2 BK159
          have hcz113_3 := bc3 BK159
          have hcz113_4 := bc4 BK159
          have hcz113_5 := bc5 BK159
          have hcz113_6 := bc6 BK159
          have hfz113_0 := blk_frozen BK159.out 0
          have hfz113_1 := blk_frozen BK159.out 1
          have hfz113_2 := blk_frozen BK159.out 2
          have hfz113_3 := blk_frozen BK159.out 3
          have hfz113_4 := blk_frozen BK159.out 4
          have hfz113_5 := blk_frozen BK159.out 5
          have hfz113_6 := blk_frozen BK159.out 6
          try go_wp2_with (first | ((with_reducible refine gate_callee (f := 16) rfl ?_); refine goesL_ (some 39) rfl rfl Try.func16 (by kernel_rfl) rfl #[.slice A0 l0.length c0, .string a1_2] rfl am_ ?_; (with_reducible refine (hopmeshref14_Find.calls kj4 _ _ l0 a1_2 t168 t169 _ ?side1 ?side2 A18.out).mono ?_); (case side1 => repeat (first | exact (Kd.C_below HR0.out HB.out) | (with_reducible refine Kd.C_alloc ?_ _) | (with_reducible refine Kd.C_drewN ?_ _) | (with_reducible refine Kd.C_drew ?_))); (case side2 => exact HC0.out); rintro e w114 ⟨rfl, hb⟩; refine ⟨_, rfl, ?_⟩; have n0_ := Aside0.mk (Kd.R_below (kr_ HO165) hb); have n1_ := bk_ BK159 hb; have n2_ := Aside0.mk (below_step hb_ hb); clear HO165; clear BK159; clear HB; have HO165 := n0_; have BK159 := n1_; have HB := n2_; clear n0_ n1_ n2_; (try clear hb); (try clear hb2); (try clear hk); (try clear hi)))
          have n0_ := Aside0.mk (Kd.R_drew HO165.out)
          have n1_ := Aside0.mk (blk_drew BK159.out)
          have n2_ := Aside0.mk (below_drew1 HB.out)
          clear HO165
          clear BK159
          clear HB
          have HO165 := n0_
          have BK159 := n1_
          have HB := n2_
          clear n0_ n1_ n2_
          refine start_ (n := 9) (S := fun w' => w'.cell? ⟨gb159, 0, none⟩ = some (.int .i64 a1_0) ∧ w'.cell? ⟨gb159, 1, none⟩ = some (.int .i64 a1_1) ∧ w'.cell? ⟨gb159, 2, none⟩ = some (.string a1_2) ∧ w'.cell? ⟨gb159, 3, none⟩ = some (.string a1_3) ∧ w'.cell? ⟨gb159, 4, none⟩ = some (.int .i64 a1_4) ∧ w'.cell? ⟨gb159, 5, none⟩ = some (.int .i64 a1_5) ∧ w'.cell? ⟨gb159, 6, none⟩ = some (.int .i64 a1_6)) (ds := []) #[false, false, false, false, false, false, false, false, false] (by kernel_rfl) rfl rfl ⟨(blk_cell BK159.out 0).trans rfl, (blk_cell BK159.out 1).trans rfl, (blk_cell BK159.out 2).trans rfl, (blk_cell BK159.out 3).trans rfl, (blk_cell BK159.out 4).trans rfl, (blk_cell BK159.out 5).trans rfl, (blk_cell BK159.out 6).trans rfl⟩ (fun hHeld => ?_); refine with_tabW hopmeshlaw14_CompressWrites.tab7 hopmeshlaw14_CompressWrites.bits7 (fun HT_ HW_ => ?_)
          generalize w114.drew = w115 at HO165 BK159 HB hHeld ⊢
          refine pu_ HT_ 0 43 (bl 9 1) ?_
          refine tk_ HT_ HW_ hHeld 2 45 (bl 9 5) ?_
          refine one_ (i := 1) (N := some 44) (bl 9 7) rfl rfl (one_of HT_.out (by kernel_rfl)) (by decide) (fun K hK => ?_)
          refine goes_ Try.func14 (by kernel_rfl) rfl #[.slice A0 l0.length c0] (by rfl) rfl rfl am_ ?_
          with_reducible refine (api_Context.calls _ _ l0 t170 _ ?side1 ?side2 A19.out).mono ?_
          (case side1 => repeat (first | exact (Kd.C_below HR0.out HB.out) | (with_reducible refine Kd.C_alloc ?_ _) | (with_reducible refine Kd.C_drewN ?_ _) | (with_reducible refine Kd.C_drew ?_)))
          (case side2 => exact HC0.out)
          rintro e w116 ⟨v171, rfl, ho0, hb⟩
          refine ⟨_, rfl, ?_⟩
          have n0_ := Aside0.mk (Kd.R_elder' (kr_ HO165) (Kd.R_base ho0) hb)
          have n1_ := Aside0.mk (Kd.R_lower (Kd.R_new' ho0 (Kd.R_lt (kr_ HO165))) (below_size hb_))
          have n2_ := bk_ BK159 hb
          have n3_ := Aside0.mk (below_step hb_ hb)
          clear HO165
          clear BK159
          clear HB
          have HO165 := n0_
          have HO172 := n1_
          have BK159 := n2_
          have HB := n3_
          clear n0_ n1_ n2_ n3_
          (try clear hb)
          (try clear hb2)
          (try clear hk)
          (try clear hi)
          (try clear ho0)
          obtain ⟨Ao117, co117, eo117⟩ := Kd.R_slice HO172.out
          (first | subst eo117 | (injection eo117 with f1_ f2_ f3_; have f4_ := f1_.symm; have f5_ := f3_.symm; clear f1_ f2_ f3_; subst f4_; subst f5_))
          refine hK.out _ _ ⟨(blk_cell BK159.out 0).trans rfl, (blk_cell BK159.out 1).trans rfl, (blk_cell BK159.out 2).trans rfl, (blk_cell BK159.out 3).trans rfl, (blk_cell BK159.out 4).trans rfl, (blk_cell BK159.out 5).trans rfl, (blk_cell BK159.out 6).trans rfl⟩ (fun hHeld => ?_)
          clear hK K
          refine norm_ (a' := ?_) ?_ ?_
          rotate_left
          ·
           show Act.put _ (some 44) _ = _
           simp only [ap_, s0_, s1_, i64_w]
           rfl
          refine one_ (i := 3) (N := some 46) (bl 9 15) rfl rfl (one_of HT_.out (by kernel_rfl)) (by decide) (fun K hK => ?_)
          refine goes_ Try.func17 (by kernel_rfl) rfl #[.slice Ao117 t170.length co117, .agg #[.int .i64 a1_0, .int .i64 a1_1, .string a1_2, .string a1_3, .int .i64 a1_4, .int .i64 a1_5, .int .i64 a1_6]] (by rfl) rfl rfl am_ ?_
          with_reducible refine (compress_Compress.calls _ _ t170 a1_0 a1_1 a1_2 a1_3 a1_4 a1_5 a1_6 t173 t174 _ ?side1 ?side2 A20.out).mono ?_
          (case side1 => repeat (first | exact (Kd.R_reads' HO172.out).2.2 | (with_reducible refine Kd.C_alloc ?_ _) | (with_reducible refine Kd.C_drewN ?_ _) | (with_reducible refine Kd.C_drew ?_)))
          (case side2 => exact (Kd.R_reads' HO172.out).2.1)
          rintro e w118 ⟨rfl, hb⟩
          refine ⟨_, rfl, ?_⟩
          have n0_ := Aside0.mk (Kd.R_below (kr_ HO165) hb)
          have n1_ := Aside0.mk (Kd.R_below (kr_ HO172) hb)
          have n2_ := bk_ BK159 hb
          have n3_ := Aside0.mk (below_step hb_ hb)
          clear HO165
          clear HO172
          clear BK159
          clear HB
          have HO165 := n0_
          have HO172 := n1_
          have BK159 := n2_
          have HB := n3_
          clear n0_ n1_ n2_ n3_
          (try clear hb)
          (try clear hb2)
          (try clear hk)
          (try clear hi)
          refine hK.out _ _ ⟨(blk_cell BK159.out 0).trans rfl, (blk_cell BK159.out 1).trans rfl, (blk_cell BK159.out 2).trans rfl, (blk_cell BK159.out 3).trans rfl, (blk_cell BK159.out 4).trans rfl, (blk_cell BK159.out 5).trans rfl, (blk_cell BK159.out 6).trans rfl⟩ (fun hHeld => ?_)
          clear hK K
          refine norm_ (a' := ?_) ?_ ?_
          rotate_left
          ·
           show Act.put _ (some 46) _ = _
           simp only [ap_, s0_, s1_, i64_w]
           rfl
          refine pu_ HT_ 4 42 (bl 9 31) ?_
          refine pu_ HT_ 5 47 (bl 9 63) ?_
          refine pu_ HT_ 6 48 (bl 9 127) ?_
          refine pu_ HT_ 7 9 (bl 9 255) ?_
          refine pu_ HT_ 8 10 (bl 9 511) ?_
          refine done_ (done_of HT_.out (by kernel_rfl)) ?_
          have hcz119_0 := bc0 BK159
          have hcz119_1 := bc1 BK159
          have hcz119_2 := bc2 BK159
          have hcz119_3 := bc3 BK159
          have hcz119_4 := bc4 BK159
          have hcz119_5 := bc5 BK159
          have hcz119_6 := bc6 BK159
          have hfz119_0 := blk_frozen BK159.out 0
          have hfz119_1 := blk_frozen BK159.out 1
          have hfz119_2 := blk_frozen BK159.out 2
          have hfz119_3 := blk_frozen BK159.out 3
          have hfz119_4 := blk_frozen BK159.out 4
          have hfz119_5 := blk_frozen BK159.out 5
          have hfz119_6 := blk_frozen BK159.out 6
          try go_wp2_with (first | ((with_reducible refine gate_callee (f := 18) rfl ?_); refine goesL_ (some 52) rfl rfl Try.func18 (by kernel_rfl) rfl #[.slice A0 l0.length c0, .agg #[.int .i64 a1_0, .int .i64 a1_1, .string a1_2, .string a1_3, .int .i64 a1_4, .int .i64 a1_5, .int .i64 a1_6]] rfl am_ ?_; (with_reducible refine (hopmeshref14_Compress.calls _ _ l0 a1_0 a1_1 a1_2 a1_3 a1_4 a1_5 a1_6 t175 t176 _ ?side1 ?side2 A21.out).mono ?_); (case side1 => repeat (first | exact (Kd.C_below HR0.out HB.out) | (with_reducible refine Kd.C_alloc ?_ _) | (with_reducible refine Kd.C_drewN ?_ _) | (with_reducible refine Kd.C_drew ?_))); (case side2 => exact HC0.out); rintro e w120 ⟨rfl, hb⟩; refine ⟨_, rfl, ?_⟩; have n0_ := Aside0.mk (Kd.R_below (kr_ HO165) hb); have n1_ := Aside0.mk (Kd.R_below (kr_ HO172) hb); have n2_ := bk_ BK159 hb; have n3_ := Aside0.mk (below_step hb_ hb); clear HO165; clear HO172; clear BK159; clear HB; have HO165 := n0_; have HO172 := n1_; have BK159 := n2_; have HB := n3_; clear n0_ n1_ n2_ n3_; (try clear hb); (try clear hb2); (try clear hk); (try clear hi)))
          have n0_ := Aside0.mk (Kd.R_drew HO165.out)
          have n1_ := Aside0.mk (Kd.R_drew HO172.out)
          have n2_ := Aside0.mk (blk_drew BK159.out)
          have n3_ := Aside0.mk (below_drew1 HB.out)
          clear HO165
          clear HO172
          clear BK159
          clear HB
          have HO165 := n0_
          have HO172 := n1_
          have BK159 := n2_
          have HB := n3_
          clear n0_ n1_ n2_ n3_
          refine start_ (n := 9) (S := fun w' => w'.cell? ⟨gb159, 0, none⟩ = some (.int .i64 a1_0) ∧ w'.cell? ⟨gb159, 1, none⟩ = some (.int .i64 a1_1) ∧ w'.cell? ⟨gb159, 2, none⟩ = some (.string a1_2) ∧ w'.cell? ⟨gb159, 3, none⟩ = some (.string a1_3) ∧ w'.cell? ⟨gb159, 4, none⟩ = some (.int .i64 a1_4) ∧ w'.cell? ⟨gb159, 5, none⟩ = some (.int .i64 a1_5) ∧ w'.cell? ⟨gb159, 6, none⟩ = some (.int .i64 a1_6)) (ds := []) #[false, false, false, false, false, false, false, false, false] (by kernel_rfl) rfl rfl ⟨(blk_cell BK159.out 0).trans rfl, (blk_cell BK159.out 1).trans rfl, (blk_cell BK159.out 2).trans rfl, (blk_cell BK159.out 3).trans rfl, (blk_cell BK159.out 4).trans rfl, (blk_cell BK159.out 5).trans rfl, (blk_cell BK159.out 6).trans rfl⟩ (fun hHeld => ?_); refine with_tabW hopmeshlaw14_CompressWrites.tab9 hopmeshlaw14_CompressWrites.bits9 (fun HT_ HW_ => ?_)
          generalize w120.drew = w121 at HO165 HO172 BK159 HB hHeld ⊢
          refine pu_ HT_ 0 56 (bl 9 1) ?_
          refine tk_ HT_ HW_ hHeld 2 58 (bl 9 5) ?_
          refine one_ (i := 1) (N := some 57) (bl 9 7) rfl rfl (one_of HT_.out (by kernel_rfl)) (by decide) (fun K hK => ?_)
          refine goes_ Try.func14 (by kernel_rfl) rfl #[.slice A0 l0.length c0] (by rfl) rfl rfl am_ ?_
          with_reducible refine (api_Context.calls _ _ l0 t177 _ ?side1 ?side2 A22.out).mono ?_
          (case side1 => repeat (first | exact (Kd.C_below HR0.out HB.out) | (with_reducible refine Kd.C_alloc ?_ _) | (with_reducible refine Kd.C_drewN ?_ _) | (with_reducible refine Kd.C_drew ?_)))
          (case side2 => exact HC0.out)
          rintro e w122 ⟨v178, rfl, ho0, hb⟩
          refine ⟨_, rfl, ?_⟩
          have n0_ := Aside0.mk (Kd.R_elder' (kr_ HO165) (Kd.R_base ho0) hb)
          have n1_ := Aside0.mk (Kd.R_elder' (kr_ HO172) (Kd.R_base ho0) hb)
          have n2_ := Aside0.mk (Kd.R_lower (Kd.R_new' (Kd.R_new' ho0 (Kd.R_lt (kr_ HO165))) (Kd.R_lt (kr_ HO172))) (below_size hb_))
          have n3_ := bk_ BK159 hb
          have n4_ := Aside0.mk (below_step hb_ hb)
          clear HO165
          clear HO172
          clear BK159
          clear HB
          have HO165 := n0_
          have HO172 := n1_
          have HO179 := n2_
          have BK159 := n3_
          have HB := n4_
          clear n0_ n1_ n2_ n3_ n4_
          (try clear hb)
          (try clear hb2)
          (try clear hk)
          (try clear hi)
          (try clear ho0)
          obtain ⟨Ao123, co123, eo123⟩ := Kd.R_slice HO179.out
          (first | subst eo123 | (injection eo123 with f1_ f2_ f3_; have f4_ := f1_.symm; have f5_ := f3_.symm; clear f1_ f2_ f3_; subst f4_; subst f5_))
          refine hK.out _ _ ⟨(blk_cell BK159.out 0).trans rfl, (blk_cell BK159.out 1).trans rfl, (blk_cell BK159.out 2).trans rfl, (blk_cell BK159.out 3).trans rfl, (blk_cell BK159.out 4).trans rfl, (blk_cell BK159.out 5).trans rfl, (blk_cell BK159.out 6).trans rfl⟩ (fun hHeld => ?_)
          clear hK K
          refine norm_ (a' := ?_) ?_ ?_
          rotate_left
          ·
           show Act.put _ (some 57) _ = _
           simp only [ap_, s0_, s1_, i64_w]
           rfl
          refine one_ (i := 3) (N := some 59) (bl 9 15) rfl rfl (one_of HT_.out (by kernel_rfl)) (by decide) (fun K hK => ?_)
          refine goes_ Try.func13 (by kernel_rfl) rfl #[.slice Ao123 t177.length co123, .agg #[.int .i64 a1_0, .int .i64 a1_1, .string a1_2, .string a1_3, .int .i64 a1_4, .int .i64 a1_5, .int .i64 a1_6]] (by rfl) rfl rfl am_ ?_
          with_reducible refine (compress_Bits.calls _ _ t177 a1_0 a1_1 a1_2 a1_3 a1_4 a1_5 a1_6 t180 t181 _ ?side1 ?side2 A23.out).mono ?_
          (case side1 => repeat (first | exact (Kd.R_reads' HO179.out).2.2 | (with_reducible refine Kd.C_alloc ?_ _) | (with_reducible refine Kd.C_drewN ?_ _) | (with_reducible refine Kd.C_drew ?_)))
          (case side2 => exact (Kd.R_reads' HO179.out).2.1)
          rintro e w124 ⟨rfl, hb⟩
          refine ⟨_, rfl, ?_⟩
          have n0_ := Aside0.mk (Kd.R_below (kr_ HO165) hb)
          have n1_ := Aside0.mk (Kd.R_below (kr_ HO172) hb)
          have n2_ := Aside0.mk (Kd.R_below (kr_ HO179) hb)
          have n3_ := bk_ BK159 hb
          have n4_ := Aside0.mk (below_step hb_ hb)
          clear HO165
          clear HO172
          clear HO179
          clear BK159
          clear HB
          have HO165 := n0_
          have HO172 := n1_
          have HO179 := n2_
          have BK159 := n3_
          have HB := n4_
          clear n0_ n1_ n2_ n3_ n4_
          (try clear hb)
          (try clear hb2)
          (try clear hk)
          (try clear hi)
          refine hK.out _ _ ⟨(blk_cell BK159.out 0).trans rfl, (blk_cell BK159.out 1).trans rfl, (blk_cell BK159.out 2).trans rfl, (blk_cell BK159.out 3).trans rfl, (blk_cell BK159.out 4).trans rfl, (blk_cell BK159.out 5).trans rfl, (blk_cell BK159.out 6).trans rfl⟩ (fun hHeld => ?_)
          clear hK K
          refine norm_ (a' := ?_) ?_ ?_
          rotate_left
          ·
           show Act.put _ (some 59) _ = _
           simp only [ap_, s0_, s1_, i64_w]
           rfl
          refine pu_ HT_ 4 55 (bl 9 31) ?_
          refine pu_ HT_ 5 60 (bl 9 63) ?_
          refine pu_ HT_ 6 61 (bl 9 127) ?_
          refine pu_ HT_ 7 13 (bl 9 255) ?_
          refine pu_ HT_ 8 14 (bl 9 511) ?_
          refine done_ (done_of HT_.out (by kernel_rfl)) ?_
          have hcz125_0 := bc0 BK159
          have hcz125_1 := bc1 BK159
          have hcz125_2 := bc2 BK159
          have hcz125_3 := bc3 BK159
          have hcz125_4 := bc4 BK159
          have hcz125_5 := bc5 BK159
          have hcz125_6 := bc6 BK159
          have hfz125_0 := blk_frozen BK159.out 0
          have hfz125_1 := blk_frozen BK159.out 1
          have hfz125_2 := blk_frozen BK159.out 2
          have hfz125_3 := blk_frozen BK159.out 3
          have hfz125_4 := blk_frozen BK159.out 4
          have hfz125_5 := blk_frozen BK159.out 5
          have hfz125_6 := blk_frozen BK159.out 6
          try go_wp2_with (first | ((with_reducible refine gate_callee (f := 19) rfl ?_); refine goesL_ (some 65) rfl rfl Try.func19 (by kernel_rfl) rfl #[.slice A0 l0.length c0, .agg #[.int .i64 a1_0, .int .i64 a1_1, .string a1_2, .string a1_3, .int .i64 a1_4, .int .i64 a1_5, .int .i64 a1_6]] rfl am_ ?_; (with_reducible refine (hopmeshref14_Bits.calls _ _ l0 a1_0 a1_1 a1_2 a1_3 a1_4 a1_5 a1_6 t182 t183 _ ?side1 ?side2 A24.out).mono ?_); (case side1 => repeat (first | exact (Kd.C_below HR0.out HB.out) | (with_reducible refine Kd.C_alloc ?_ _) | (with_reducible refine Kd.C_drewN ?_ _) | (with_reducible refine Kd.C_drew ?_))); (case side2 => exact HC0.out); rintro e w126 ⟨rfl, hb⟩; refine ⟨_, rfl, ?_⟩; have n0_ := Aside0.mk (Kd.R_below (kr_ HO165) hb); have n1_ := Aside0.mk (Kd.R_below (kr_ HO172) hb); have n2_ := Aside0.mk (Kd.R_below (kr_ HO179) hb); have n3_ := bk_ BK159 hb; have n4_ := Aside0.mk (below_step hb_ hb); clear HO165; clear HO172; clear HO179; clear BK159; clear HB; have HO165 := n0_; have HO172 := n1_; have HO179 := n2_; have BK159 := n3_; have HB := n4_; clear n0_ n1_ n2_ n3_ n4_; (try clear hb); (try clear hb2); (try clear hk); (try clear hi)))
          have n0_ := Aside0.mk (Kd.R_drew HO165.out)
          have n1_ := Aside0.mk (Kd.R_drew HO172.out)
          have n2_ := Aside0.mk (Kd.R_drew HO179.out)
          have n3_ := Aside0.mk (blk_drew BK159.out)
          have n4_ := Aside0.mk (below_drew1 HB.out)
          clear HO165
          clear HO172
          clear HO179
          clear BK159
          clear HB
          have HO165 := n0_
          have HO172 := n1_
          have HO179 := n2_
          have BK159 := n3_
          have HB := n4_
          clear n0_ n1_ n2_ n3_ n4_
          refine start_ (n := 44) (S := fun w' => w'.cell? ⟨gb159, 0, none⟩ = some (.int .i64 a1_0) ∧ w'.cell? ⟨gb159, 1, none⟩ = some (.int .i64 a1_1) ∧ w'.cell? ⟨gb159, 2, none⟩ = some (.string a1_2) ∧ w'.cell? ⟨gb159, 3, none⟩ = some (.string a1_3) ∧ w'.cell? ⟨gb159, 4, none⟩ = some (.int .i64 a1_4) ∧ w'.cell? ⟨gb159, 5, none⟩ = some (.int .i64 a1_5) ∧ w'.cell? ⟨gb159, 6, none⟩ = some (.int .i64 a1_6)) (ds := []) #[false, false, false, false, false, false, false, false, false, false, false, false, false, false, false, false, false, false, false, false, false, false, false, false, false, false, false, false, false, false, false, false, false, false, false, false, false, false, false, false, false, false, false, false] (by kernel_rfl) rfl rfl ⟨(blk_cell BK159.out 0).trans rfl, (blk_cell BK159.out 1).trans rfl, (blk_cell BK159.out 2).trans rfl, (blk_cell BK159.out 3).trans rfl, (blk_cell BK159.out 4).trans rfl, (blk_cell BK159.out 5).trans rfl, (blk_cell BK159.out 6).trans rfl⟩ (fun hHeld => ?_); refine with_tabW hopmeshlaw14_CompressWrites.tab11 hopmeshlaw14_CompressWrites.bits11 (fun HT_ HW_ => ?_)
          generalize w126.drew = w127 at HO165 HO172 HO179 BK159 HB hHeld ⊢
          refine tk_ HT_ HW_ hHeld 0 68 (bl 44 1) ?_
          refine tk_ HT_ HW_ hHeld 2 70 (bl 44 5) ?_
          refine one_ (i := 1) (N := some 69) (bl 44 7) rfl rfl (one_of HT_.out (by kernel_rfl)) (by decide) (fun K hK => ?_)
          refine goes_ Try.func20 (by kernel_rfl) rfl #[.agg #[.int .i64 a1_0, .int .i64 a1_1, .string a1_2, .string a1_3, .int .i64 a1_4, .int .i64 a1_5, .int .i64 a1_6]] (by rfl) rfl rfl am_ ?_
          with_reducible refine (compress_Check.calls kj4 a1_0 a1_1 a1_2 a1_3 a1_4 a1_5 a1_6 t184 _ A25.out).mono ?_
          rintro e w128 ⟨rfl, hb⟩
          refine ⟨_, rfl, ?_⟩
          have n0_ := Aside0.mk (Kd.R_below (kr_ HO165) hb)
          have n1_ := Aside0.mk (Kd.R_below (kr_ HO172) hb)
          have n2_ := Aside0.mk (Kd.R_below (kr_ HO179) hb)
          have n3_ := bk_ BK159 hb
          have n4_ := Aside0.mk (below_step hb_ hb)
          clear HO165
          clear HO172
          clear HO179
          clear BK159
          clear HB
          have HO165 := n0_
          have HO172 := n1_
          have HO179 := n2_
          have BK159 := n3_
          have HB := n4_
          clear n0_ n1_ n2_ n3_ n4_
          (try clear hb)
          (try clear hb2)
          (try clear hk)
          (try clear hi)
          refine hK.out _ _ ⟨(blk_cell BK159.out 0).trans rfl, (blk_cell BK159.out 1).trans rfl, (blk_cell BK159.out 2).trans rfl, (blk_cell BK159.out 3).trans rfl, (blk_cell BK159.out 4).trans rfl, (blk_cell BK159.out 5).trans rfl, (blk_cell BK159.out 6).trans rfl⟩ (fun hHeld => ?_)
          clear hK K
          refine norm_ (a' := ?_) ?_ ?_
          rotate_left
          ·
           show Act.put _ (some 69) _ = _
           simp only [ap_, s0_, s1_, i64_w]
           rfl
          refine one_ (i := 3) (N := some 71) (bl 44 15) rfl rfl (one_of HT_.out (by kernel_rfl)) (by decide) (fun K hK => ?_)
          refine goes_ Try.func21 (by kernel_rfl) rfl #[.agg #[.int .i64 a1_0, .int .i64 a1_1, .string a1_2, .string a1_3, .int .i64 a1_4, .int .i64 a1_5, .int .i64 a1_6]] (by rfl) rfl rfl am_ ?_
          with_reducible refine (hopmeshref14_Check.calls kj4 a1_0 a1_1 a1_2 a1_3 a1_4 a1_5 a1_6 t185 _ A26.out).mono ?_
          rintro e w129 ⟨rfl, hb⟩
          refine ⟨_, rfl, ?_⟩
          have n0_ := Aside0.mk (Kd.R_below (kr_ HO165) hb)
          have n1_ := Aside0.mk (Kd.R_below (kr_ HO172) hb)
          have n2_ := Aside0.mk (Kd.R_below (kr_ HO179) hb)
          have n3_ := bk_ BK159 hb
          have n4_ := Aside0.mk (below_step hb_ hb)
          clear HO165
          clear HO172
          clear HO179
          clear BK159
          clear HB
          have HO165 := n0_
          have HO172 := n1_
          have HO179 := n2_
          have BK159 := n3_
          have HB := n4_
          clear n0_ n1_ n2_ n3_ n4_
          (try clear hb)
          (try clear hb2)
          (try clear hk)
          (try clear hi)
          refine hK.out _ _ ⟨(blk_cell BK159.out 0).trans rfl, (blk_cell BK159.out 1).trans rfl, (blk_cell BK159.out 2).trans rfl, (blk_cell BK159.out 3).trans rfl, (blk_cell BK159.out 4).trans rfl, (blk_cell BK159.out 5).trans rfl, (blk_cell BK159.out 6).trans rfl⟩ (fun hHeld => ?_)
          clear hK K
          refine norm_ (a' := ?_) ?_ ?_
          rotate_left
          ·
           show Act.put _ (some 71) _ = _
           simp only [ap_, s0_, s1_, i64_w]
           rfl
          refine pu_ HT_ 4 72 (bl 44 31) ?_
          refine pu_ HT_ 5 73 (bl 44 63) ?_
          refine pu_ HT_ 6 74 (bl 44 127) ?_
          refine pu_ HT_ 9 77 (bl 44 639) ?_
          refine one_ (i := 7) (N := some 75) (bl 44 767) rfl rfl (one_of HT_.out (by kernel_rfl)) (by decide) (fun K hK => ?_)
          refine goes_ Try.func14 (by kernel_rfl) rfl #[.slice A0 l0.length c0] (by rfl) rfl rfl am_ ?_
          with_reducible refine (api_Context.calls _ _ l0 t186 _ ?side1 ?side2 A28.out).mono ?_
          (case side1 => repeat (first | exact (Kd.C_below HR0.out HB.out) | (with_reducible refine Kd.C_alloc ?_ _) | (with_reducible refine Kd.C_drewN ?_ _) | (with_reducible refine Kd.C_drew ?_)))
          (case side2 => exact HC0.out)
          rintro e w130 ⟨v187, rfl, ho0, hb⟩
          refine ⟨_, rfl, ?_⟩
          have n0_ := Aside0.mk (Kd.R_elder' (kr_ HO165) (Kd.R_base ho0) hb)
          have n1_ := Aside0.mk (Kd.R_elder' (kr_ HO172) (Kd.R_base ho0) hb)
          have n2_ := Aside0.mk (Kd.R_elder' (kr_ HO179) (Kd.R_base ho0) hb)
          have n3_ := Aside0.mk (Kd.R_lower (Kd.R_new' (Kd.R_new' (Kd.R_new' ho0 (Kd.R_lt (kr_ HO165))) (Kd.R_lt (kr_ HO172))) (Kd.R_lt (kr_ HO179))) (below_size hb_))
          have n4_ := bk_ BK159 hb
          have n5_ := Aside0.mk (below_step hb_ hb)
          clear HO165
          clear HO172
          clear HO179
          clear BK159
          clear HB
          have HO165 := n0_
          have HO172 := n1_
          have HO179 := n2_
          have HO188 := n3_
          have BK159 := n4_
          have HB := n5_
          clear n0_ n1_ n2_ n3_ n4_ n5_
          (try clear hb)
          (try clear hb2)
          (try clear hk)
          (try clear hi)
          (try clear ho0)
          obtain ⟨Ao131, co131, eo131⟩ := Kd.R_slice HO188.out
          (first | subst eo131 | (injection eo131 with f1_ f2_ f3_; have f4_ := f1_.symm; have f5_ := f3_.symm; clear f1_ f2_ f3_; subst f4_; subst f5_))
          refine hK.out _ _ ⟨(blk_cell BK159.out 0).trans rfl, (blk_cell BK159.out 1).trans rfl, (blk_cell BK159.out 2).trans rfl, (blk_cell BK159.out 3).trans rfl, (blk_cell BK159.out 4).trans rfl, (blk_cell BK159.out 5).trans rfl, (blk_cell BK159.out 6).trans rfl⟩ (fun hHeld => ?_)
          clear hK K
          refine norm_ (a' := ?_) ?_ ?_
          rotate_left
          ·
           show Act.put _ (some 75) _ = _
           simp only [ap_, s0_, s1_, i64_w]
           rfl
          refine one_ (i := 8) (N := some 76) (bl 44 1023) rfl rfl (one_of HT_.out (by kernel_rfl)) (by decide) (fun K hK => ?_)
          refine goes_ Try.func22 (by kernel_rfl) rfl #[.slice Ao131 t186.length co131] (by rfl) rfl rfl am_ ?_
          with_reducible refine (compress_Contexts.calls _ _ t186 t189 _ ?side1 ?side2 A29.out).mono ?_
          (case side1 => repeat (first | exact (Kd.R_reads' HO188.out).2.2 | (with_reducible refine Kd.C_alloc ?_ _) | (with_reducible refine Kd.C_drewN ?_ _) | (with_reducible refine Kd.C_drew ?_)))
          (case side2 => exact (Kd.R_reads' HO188.out).2.1)
          rintro e w132 ⟨rfl, hb⟩
          refine ⟨_, rfl, ?_⟩
          have n0_ := Aside0.mk (Kd.R_below (kr_ HO165) hb)
          have n1_ := Aside0.mk (Kd.R_below (kr_ HO172) hb)
          have n2_ := Aside0.mk (Kd.R_below (kr_ HO179) hb)
          have n3_ := Aside0.mk (Kd.R_below (kr_ HO188) hb)
          have n4_ := bk_ BK159 hb
          have n5_ := Aside0.mk (below_step hb_ hb)
          clear HO165
          clear HO172
          clear HO179
          clear HO188
          clear BK159
          clear HB
          have HO165 := n0_
          have HO172 := n1_
          have HO179 := n2_
          have HO188 := n3_
          have BK159 := n4_
          have HB := n5_
          clear n0_ n1_ n2_ n3_ n4_ n5_
          (try clear hb)
          (try clear hb2)
          (try clear hk)
          (try clear hi)
          refine hK.out _ _ ⟨(blk_cell BK159.out 0).trans rfl, (blk_cell BK159.out 1).trans rfl, (blk_cell BK159.out 2).trans rfl, (blk_cell BK159.out 3).trans rfl, (blk_cell BK159.out 4).trans rfl, (blk_cell BK159.out 5).trans rfl, (blk_cell BK159.out 6).trans rfl⟩ (fun hHeld => ?_)
          clear hK K
          refine norm_ (a' := ?_) ?_ ?_
          rotate_left
          ·
           show Act.put _ (some 76) _ = _
           simp only [ap_, s0_, s1_, i64_w]
           rfl
          refine one_ (i := 10) (N := some 78) (bl 44 2047) rfl rfl (one_of HT_.out (by kernel_rfl)) (by decide) (fun K hK => ?_)
          refine goes_ Try.func23 (by kernel_rfl) rfl #[.slice A0 l0.length c0] (by rfl) rfl rfl am_ ?_
          with_reducible refine (hopmeshref14_Contexts.calls kj4 _ _ l0 t190 _ ?side1 ?side2 A30.out).mono ?_
          (case side1 => repeat (first | exact (Kd.C_below HR0.out HB.out) | (with_reducible refine Kd.C_alloc ?_ _) | (with_reducible refine Kd.C_drewN ?_ _) | (with_reducible refine Kd.C_drew ?_)))
          (case side2 => exact HC0.out)
          rintro e w' ⟨rfl, ⟨nd, rfl⟩⟩
          refine ⟨_, rfl, ?_⟩
          refine hK.out _ _ ⟨(blk_cell BK159.out 0).trans rfl, (blk_cell BK159.out 1).trans rfl, (blk_cell BK159.out 2).trans rfl, (blk_cell BK159.out 3).trans rfl, (blk_cell BK159.out 4).trans rfl, (blk_cell BK159.out 5).trans rfl, (blk_cell BK159.out 6).trans rfl⟩ (fun hHeld => ?_)
          clear hK K
          refine norm_ (a' := ?_) ?_ ?_
          rotate_left
          ·
           show Act.put _ (some 78) _ = _
           simp only [ap_, s0_, s1_, i64_w]
           rfl
          refine pu_ HT_ 11 79 (bl 44 4095) ?_
          refine pu_ HT_ 12 80 (bl 44 8191) ?_
          refine pu_ HT_ 13 81 (bl 44 16383) ?_
          refine pu_ HT_ 14 82 (bl 44 32767) ?_
          refine pu_ HT_ 15 83 (bl 44 65535) ?_
          refine pu_ HT_ 16 84 (bl 44 131071) ?_
          refine pu_ HT_ 17 85 (bl 44 262143) ?_
          refine pu_ HT_ 18 86 (bl 44 524287) ?_
          refine pu_ HT_ 19 87 (bl 44 1048575) ?_
          refine pu_ HT_ 20 88 (bl 44 2097151) ?_
          refine pu_ HT_ 21 89 (bl 44 4194303) ?_
          refine pu_ HT_ 22 90 (bl 44 8388607) ?_
          refine pu_ HT_ 23 91 (bl 44 16777215) ?_
          refine pu_ HT_ 24 92 (bl 44 33554431) ?_
          refine pu_ HT_ 25 93 (bl 44 67108863) ?_
          refine pu_ HT_ 26 94 (bl 44 134217727) ?_
          refine pu_ HT_ 27 95 (bl 44 268435455) ?_
          refine pu_ HT_ 28 96 (bl 44 536870911) ?_
          refine of_ HT_ 29 97 (bl 44 1073741823) ?_
          refine of_ HT_ 30 98 (bl 44 2147483647) ?_
          refine of_ HT_ 31 99 (bl 44 4294967295) ?_
          refine pu_ HT_ 32 100 (bl 44 8589934591) ?_
          refine pu_ HT_ 33 101 (bl 44 17179869183) ?_
          refine of_ HT_ 34 102 (bl 44 34359738367) ?_
          refine of_ HT_ 35 103 (bl 44 68719476735) ?_
          refine of_ HT_ 36 104 (bl 44 137438953471) ?_
          refine pu_ HT_ 37 105 (bl 44 274877906943) ?_
          refine pu_ HT_ 38 106 (bl 44 549755813887) ?_
          refine of_ HT_ 39 107 (bl 44 1099511627775) ?_
          refine of_ HT_ 40 108 (bl 44 2199023255551) ?_
          refine of_ HT_ 41 109 (bl 44 4398046511103) ?_
          refine pu_ HT_ 42 110 (bl 44 8796093022207) ?_
          refine pu_ HT_ 43 4 (bl 44 17592186044415) ?_
          refine done_ (done_of HT_.out (by kernel_rfl)) ?_
          try go_wp2
          go_ret
          exact ⟨er_, hb_⟩
        ·
         rw [if_neg c33] at H
         have c33b0 : (t167 == t169) = false := by simpa using c33
         (try (have c33b1 : decide (t167 = t169) = false := by simpa using c33))
         (try (have c33b2 : (t167 == t169) = false := by simpa using c33))
         (try (have c33b3 : ¬ (t167 = t169) := by simpa using c33))
         clear c33
         obtain rfl := Option.some.inj H
         try go_wp2
         have n0_ := Aside0.mk (blk_drew BK159.out)
         have n1_ := Aside0.mk (below_drew1 HB.out)
         clear BK159
         clear HB
         have BK159 := n0_
         have HB := n1_
         clear n0_ n1_
         refine start_ (n := 10) (S := fun w' => w'.cell? ⟨gb159, 0, none⟩ = some (.int .i64 a1_0) ∧ w'.cell? ⟨gb159, 1, none⟩ = some (.int .i64 a1_1) ∧ w'.cell? ⟨gb159, 2, none⟩ = some (.string a1_2) ∧ w'.cell? ⟨gb159, 3, none⟩ = some (.string a1_3) ∧ w'.cell? ⟨gb159, 4, none⟩ = some (.int .i64 a1_4) ∧ w'.cell? ⟨gb159, 5, none⟩ = some (.int .i64 a1_5) ∧ w'.cell? ⟨gb159, 6, none⟩ = some (.int .i64 a1_6)) (ds := []) #[false, false, false, false, false, false, false, false, false, false] (by kernel_rfl) rfl rfl ⟨(blk_cell BK159.out 0).trans rfl, (blk_cell BK159.out 1).trans rfl, (blk_cell BK159.out 2).trans rfl, (blk_cell BK159.out 3).trans rfl, (blk_cell BK159.out 4).trans rfl, (blk_cell BK159.out 5).trans rfl, (blk_cell BK159.out 6).trans rfl⟩ (fun hHeld => ?_); refine with_tabW hopmeshlaw14_CompressWrites.tab5 hopmeshlaw14_CompressWrites.bits5 (fun HT_ HW_ => ?_)
         generalize wc.drew = w133 at BK159 HB hHeld ⊢
         refine pu_ HT_ 0 28 (bl 10 1) ?_
         refine pu_ HT_ 2 30 (bl 10 5) ?_
         refine tk_ HT_ HW_ hHeld 3 31 (bl 10 13) ?_
         refine one_ (i := 1) (N := some 29) (bl 10 15) rfl rfl (one_of HT_.out (by kernel_rfl)) (by decide) (fun K hK => ?_)
         refine goes_ Try.func14 (by kernel_rfl) rfl #[.slice A0 l0.length c0] (by rfl) rfl rfl am_ ?_
         with_reducible refine (api_Context.calls _ _ l0 t163 _ ?side1 ?side2 A16.out).mono ?_
         (case side1 => repeat (first | exact (Kd.C_below HR0.out HB.out) | (with_reducible refine Kd.C_alloc ?_ _) | (with_reducible refine Kd.C_drewN ?_ _) | (with_reducible refine Kd.C_drew ?_)))
         (case side2 => exact HC0.out)
         rintro e w134 ⟨v164, rfl, ho0, hb⟩
         refine ⟨_, rfl, ?_⟩
         have n0_ := Aside0.mk (Kd.R_lower ho0 (below_size hb_))
         have n1_ := bk_ BK159 hb
         have n2_ := Aside0.mk (below_step hb_ hb)
         clear BK159
         clear HB
         have HO165 := n0_
         have BK159 := n1_
         have HB := n2_
         clear n0_ n1_ n2_
         (try clear hb)
         (try clear hb2)
         (try clear hk)
         (try clear hi)
         (try clear ho0)
         obtain ⟨Ao135, co135, eo135⟩ := Kd.R_slice HO165.out
         (first | subst eo135 | (injection eo135 with f1_ f2_ f3_; have f4_ := f1_.symm; have f5_ := f3_.symm; clear f1_ f2_ f3_; subst f4_; subst f5_))
         refine hK.out _ _ ⟨(blk_cell BK159.out 0).trans rfl, (blk_cell BK159.out 1).trans rfl, (blk_cell BK159.out 2).trans rfl, (blk_cell BK159.out 3).trans rfl, (blk_cell BK159.out 4).trans rfl, (blk_cell BK159.out 5).trans rfl, (blk_cell BK159.out 6).trans rfl⟩ (fun hHeld => ?_)
         clear hK K
         refine norm_ (a' := ?_) ?_ ?_
         rotate_left
         ·
          show Act.put _ (some 29) _ = _
          simp only [ap_, s0_, s1_, i64_w]
          rfl
         refine one_ (i := 4) (N := some 32) (bl 10 31) rfl rfl (one_of HT_.out (by kernel_rfl)) (by decide) (fun K hK => ?_)
         refine goes_ Try.func15 (by kernel_rfl) rfl #[.slice Ao135 t163.length co135, .string a1_2] (by rfl) rfl rfl am_ ?_
         with_reducible refine (compress_Find.calls kj4 _ _ t163 a1_2 t166 t167 _ ?side1 ?side2 A17.out).mono ?_
         (case side1 => repeat (first | exact (Kd.R_reads' HO165.out).2.2 | (with_reducible refine Kd.C_alloc ?_ _) | (with_reducible refine Kd.C_drewN ?_ _) | (with_reducible refine Kd.C_drew ?_)))
         (case side2 => exact (Kd.R_reads' HO165.out).2.1)
         rintro e w136 ⟨rfl, hb⟩
         refine ⟨_, rfl, ?_⟩
         have n0_ := Aside0.mk (Kd.R_below (kr_ HO165) hb)
         have n1_ := bk_ BK159 hb
         have n2_ := Aside0.mk (below_step hb_ hb)
         clear HO165
         clear BK159
         clear HB
         have HO165 := n0_
         have BK159 := n1_
         have HB := n2_
         clear n0_ n1_ n2_
         (try clear hb)
         (try clear hb2)
         (try clear hk)
         (try clear hi)
         refine hK.out _ _ ⟨(blk_cell BK159.out 0).trans rfl, (blk_cell BK159.out 1).trans rfl, (blk_cell BK159.out 2).trans rfl, (blk_cell BK159.out 3).trans rfl, (blk_cell BK159.out 4).trans rfl, (blk_cell BK159.out 5).trans rfl, (blk_cell BK159.out 6).trans rfl⟩ (fun hHeld => ?_)
         clear hK K
         refine norm_ (a' := ?_) ?_ ?_
         rotate_left
         ·
          show Act.put _ (some 32) _ = _
          simp only [ap_, s0_, s1_, i64_w]
          rfl
         refine pu_ HT_ 5 27 (bl 10 63) ?_
         refine pu_ HT_ 6 33 (bl 10 127) ?_
         refine pu_ HT_ 7 34 (bl 10 255) ?_
         refine pu_ HT_ 8 5 (bl 10 511) ?_
         refine pu_ HT_ 9 6 (bl 10 1023) ?_
         refine done_ (done_of HT_.out (by kernel_rfl)) ?_
         have hcz137_0 := bc0 BK159
         have hcz137_1 := bc1 BK159
         have hcz137_2 := bc2 BK159
         have hcz137_3 := bc3 BK159
         have hcz137_4 := bc4 BK159
         have hcz137_5 := bc5 BK159
         have hcz137_6 := bc6 BK159
         have hfz137_0 := blk_frozen BK159.out 0
         have hfz137_1 := blk_frozen BK159.out 1
         have hfz137_2 := blk_frozen BK159.out 2
         have hfz137_3 := blk_frozen BK159.out 3
         have hfz137_4 := blk_frozen BK159.out 4
         have hfz137_5 := blk_frozen BK159.out 5
         have hfz137_6 := blk_frozen BK159.out 6
         try go_wp2_with (first | ((with_reducible refine gate_callee (f := 16) rfl ?_); refine goesL_ (some 39) rfl rfl Try.func16 (by kernel_rfl) rfl #[.slice A0 l0.length c0, .string a1_2] rfl am_ ?_; (with_reducible refine (hopmeshref14_Find.calls kj4 _ _ l0 a1_2 t168 t169 _ ?side1 ?side2 A18.out).mono ?_); (case side1 => repeat (first | exact (Kd.C_below HR0.out HB.out) | (with_reducible refine Kd.C_alloc ?_ _) | (with_reducible refine Kd.C_drewN ?_ _) | (with_reducible refine Kd.C_drew ?_))); (case side2 => exact HC0.out); rintro e w138 ⟨rfl, hb⟩; refine ⟨_, rfl, ?_⟩; have n0_ := Aside0.mk (Kd.R_below (kr_ HO165) hb); have n1_ := bk_ BK159 hb; have n2_ := Aside0.mk (below_step hb_ hb); clear HO165; clear BK159; clear HB; have HO165 := n0_; have BK159 := n1_; have HB := n2_; clear n0_ n1_ n2_; (try clear hb); (try clear hb2); (try clear hk); (try clear hi)))
         have n0_ := Aside0.mk (Kd.R_drew HO165.out)
         have n1_ := Aside0.mk (blk_drew BK159.out)
         have n2_ := Aside0.mk (below_drew1 HB.out)
         clear HO165
         clear BK159
         clear HB
         have HO165 := n0_
         have BK159 := n1_
         have HB := n2_
         clear n0_ n1_ n2_
         refine start_ (n := 9) (S := fun w' => w'.cell? ⟨gb159, 0, none⟩ = some (.int .i64 a1_0) ∧ w'.cell? ⟨gb159, 1, none⟩ = some (.int .i64 a1_1) ∧ w'.cell? ⟨gb159, 2, none⟩ = some (.string a1_2) ∧ w'.cell? ⟨gb159, 3, none⟩ = some (.string a1_3) ∧ w'.cell? ⟨gb159, 4, none⟩ = some (.int .i64 a1_4) ∧ w'.cell? ⟨gb159, 5, none⟩ = some (.int .i64 a1_5) ∧ w'.cell? ⟨gb159, 6, none⟩ = some (.int .i64 a1_6)) (ds := []) #[false, false, false, false, false, false, false, false, false] (by kernel_rfl) rfl rfl ⟨(blk_cell BK159.out 0).trans rfl, (blk_cell BK159.out 1).trans rfl, (blk_cell BK159.out 2).trans rfl, (blk_cell BK159.out 3).trans rfl, (blk_cell BK159.out 4).trans rfl, (blk_cell BK159.out 5).trans rfl, (blk_cell BK159.out 6).trans rfl⟩ (fun hHeld => ?_); refine with_tabW hopmeshlaw14_CompressWrites.tab7 hopmeshlaw14_CompressWrites.bits7 (fun HT_ HW_ => ?_)
         generalize w138.drew = w139 at HO165 BK159 HB hHeld ⊢
         refine pu_ HT_ 0 43 (bl 9 1) ?_
         refine tk_ HT_ HW_ hHeld 2 45 (bl 9 5) ?_
         refine one_ (i := 1) (N := some 44) (bl 9 7) rfl rfl (one_of HT_.out (by kernel_rfl)) (by decide) (fun K hK => ?_)
         refine goes_ Try.func14 (by kernel_rfl) rfl #[.slice A0 l0.length c0] (by rfl) rfl rfl am_ ?_
         with_reducible refine (api_Context.calls _ _ l0 t170 _ ?side1 ?side2 A19.out).mono ?_
         (case side1 => repeat (first | exact (Kd.C_below HR0.out HB.out) | (with_reducible refine Kd.C_alloc ?_ _) | (with_reducible refine Kd.C_drewN ?_ _) | (with_reducible refine Kd.C_drew ?_)))
         (case side2 => exact HC0.out)
         rintro e w140 ⟨v171, rfl, ho0, hb⟩
         refine ⟨_, rfl, ?_⟩
         have n0_ := Aside0.mk (Kd.R_elder' (kr_ HO165) (Kd.R_base ho0) hb)
         have n1_ := Aside0.mk (Kd.R_lower (Kd.R_new' ho0 (Kd.R_lt (kr_ HO165))) (below_size hb_))
         have n2_ := bk_ BK159 hb
         have n3_ := Aside0.mk (below_step hb_ hb)
         clear HO165
         clear BK159
         clear HB
         have HO165 := n0_
         have HO172 := n1_
         have BK159 := n2_
         have HB := n3_
         clear n0_ n1_ n2_ n3_
         (try clear hb)
         (try clear hb2)
         (try clear hk)
         (try clear hi)
         (try clear ho0)
         obtain ⟨Ao141, co141, eo141⟩ := Kd.R_slice HO172.out
         (first | subst eo141 | (injection eo141 with f1_ f2_ f3_; have f4_ := f1_.symm; have f5_ := f3_.symm; clear f1_ f2_ f3_; subst f4_; subst f5_))
         refine hK.out _ _ ⟨(blk_cell BK159.out 0).trans rfl, (blk_cell BK159.out 1).trans rfl, (blk_cell BK159.out 2).trans rfl, (blk_cell BK159.out 3).trans rfl, (blk_cell BK159.out 4).trans rfl, (blk_cell BK159.out 5).trans rfl, (blk_cell BK159.out 6).trans rfl⟩ (fun hHeld => ?_)
         clear hK K
         refine norm_ (a' := ?_) ?_ ?_
         rotate_left
         ·
          show Act.put _ (some 44) _ = _
          simp only [ap_, s0_, s1_, i64_w]
          rfl
         refine one_ (i := 3) (N := some 46) (bl 9 15) rfl rfl (one_of HT_.out (by kernel_rfl)) (by decide) (fun K hK => ?_)
         refine goes_ Try.func17 (by kernel_rfl) rfl #[.slice Ao141 t170.length co141, .agg #[.int .i64 a1_0, .int .i64 a1_1, .string a1_2, .string a1_3, .int .i64 a1_4, .int .i64 a1_5, .int .i64 a1_6]] (by rfl) rfl rfl am_ ?_
         with_reducible refine (compress_Compress.calls _ _ t170 a1_0 a1_1 a1_2 a1_3 a1_4 a1_5 a1_6 t173 t174 _ ?side1 ?side2 A20.out).mono ?_
         (case side1 => repeat (first | exact (Kd.R_reads' HO172.out).2.2 | (with_reducible refine Kd.C_alloc ?_ _) | (with_reducible refine Kd.C_drewN ?_ _) | (with_reducible refine Kd.C_drew ?_)))
         (case side2 => exact (Kd.R_reads' HO172.out).2.1)
         rintro e w142 ⟨rfl, hb⟩
         refine ⟨_, rfl, ?_⟩
         have n0_ := Aside0.mk (Kd.R_below (kr_ HO165) hb)
         have n1_ := Aside0.mk (Kd.R_below (kr_ HO172) hb)
         have n2_ := bk_ BK159 hb
         have n3_ := Aside0.mk (below_step hb_ hb)
         clear HO165
         clear HO172
         clear BK159
         clear HB
         have HO165 := n0_
         have HO172 := n1_
         have BK159 := n2_
         have HB := n3_
         clear n0_ n1_ n2_ n3_
         (try clear hb)
         (try clear hb2)
         (try clear hk)
         (try clear hi)
         refine hK.out _ _ ⟨(blk_cell BK159.out 0).trans rfl, (blk_cell BK159.out 1).trans rfl, (blk_cell BK159.out 2).trans rfl, (blk_cell BK159.out 3).trans rfl, (blk_cell BK159.out 4).trans rfl, (blk_cell BK159.out 5).trans rfl, (blk_cell BK159.out 6).trans rfl⟩ (fun hHeld => ?_)
         clear hK K
         refine norm_ (a' := ?_) ?_ ?_
         rotate_left
         ·
          show Act.put _ (some 46) _ = _
          simp only [ap_, s0_, s1_, i64_w]
          rfl
         refine pu_ HT_ 4 42 (bl 9 31) ?_
         refine pu_ HT_ 5 47 (bl 9 63) ?_
         refine pu_ HT_ 6 48 (bl 9 127) ?_
         refine pu_ HT_ 7 9 (bl 9 255) ?_
         refine pu_ HT_ 8 10 (bl 9 511) ?_
         refine done_ (done_of HT_.out (by kernel_rfl)) ?_
         have hcz143_0 := bc0 BK159
         have hcz143_1 := bc1 BK159
         have hcz143_2 := bc2 BK159
         have hcz143_3 := bc3 BK159
         have hcz143_4 := bc4 BK159
         have hcz143_5 := bc5 BK159
         have hcz143_6 := bc6 BK159
         have hfz143_0 := blk_frozen BK159.out 0
         have hfz143_1 := blk_frozen BK159.out 1
         have hfz143_2 := blk_frozen BK159.out 2
         have hfz143_3 := blk_frozen BK159.out 3
         have hfz143_4 := blk_frozen BK159.out 4
         have hfz143_5 := blk_frozen BK159.out 5
         have hfz143_6 := blk_frozen BK159.out 6
         try go_wp2_with (first | ((with_reducible refine gate_callee (f := 18) rfl ?_); refine goesL_ (some 52) rfl rfl Try.func18 (by kernel_rfl) rfl #[.slice A0 l0.length c0, .agg #[.int .i64 a1_0, .int .i64 a1_1, .string a1_2, .string a1_3, .int .i64 a1_4, .int .i64 a1_5, .int .i64 a1_6]] rfl am_ ?_; (with_reducible refine (hopmeshref14_Compress.calls _ _ l0 a1_0 a1_1 a1_2 a1_3 a1_4 a1_5 a1_6 t175 t176 _ ?side1 ?side2 A21.out).mono ?_); (case side1 => repeat (first | exact (Kd.C_below HR0.out HB.out) | (with_reducible refine Kd.C_alloc ?_ _) | (with_reducible refine Kd.C_drewN ?_ _) | (with_reducible refine Kd.C_drew ?_))); (case side2 => exact HC0.out); rintro e w144 ⟨rfl, hb⟩; refine ⟨_, rfl, ?_⟩; have n0_ := Aside0.mk (Kd.R_below (kr_ HO165) hb); have n1_ := Aside0.mk (Kd.R_below (kr_ HO172) hb); have n2_ := bk_ BK159 hb; have n3_ := Aside0.mk (below_step hb_ hb); clear HO165; clear HO172; clear BK159; clear HB; have HO165 := n0_; have HO172 := n1_; have BK159 := n2_; have HB := n3_; clear n0_ n1_ n2_ n3_; (try clear hb); (try clear hb2); (try clear hk); (try clear hi)))
         have n0_ := Aside0.mk (Kd.R_drew HO165.out)
         have n1_ := Aside0.mk (Kd.R_drew HO172.out)
         have n2_ := Aside0.mk (blk_drew BK159.out)
         have n3_ := Aside0.mk (below_drew1 HB.out)
         clear HO165
         clear HO172
         clear BK159
         clear HB
         have HO165 := n0_
         have HO172 := n1_
         have BK159 := n2_
         have HB := n3_
         clear n0_ n1_ n2_ n3_
         refine start_ (n := 9) (S := fun w' => w'.cell? ⟨gb159, 0, none⟩ = some (.int .i64 a1_0) ∧ w'.cell? ⟨gb159, 1, none⟩ = some (.int .i64 a1_1) ∧ w'.cell? ⟨gb159, 2, none⟩ = some (.string a1_2) ∧ w'.cell? ⟨gb159, 3, none⟩ = some (.string a1_3) ∧ w'.cell? ⟨gb159, 4, none⟩ = some (.int .i64 a1_4) ∧ w'.cell? ⟨gb159, 5, none⟩ = some (.int .i64 a1_5) ∧ w'.cell? ⟨gb159, 6, none⟩ = some (.int .i64 a1_6)) (ds := []) #[false, false, false, false, false, false, false, false, false] (by kernel_rfl) rfl rfl ⟨(blk_cell BK159.out 0).trans rfl, (blk_cell BK159.out 1).trans rfl, (blk_cell BK159.out 2).trans rfl, (blk_cell BK159.out 3).trans rfl, (blk_cell BK159.out 4).trans rfl, (blk_cell BK159.out 5).trans rfl, (blk_cell BK159.out 6).trans rfl⟩ (fun hHeld => ?_); refine with_tabW hopmeshlaw14_CompressWrites.tab9 hopmeshlaw14_CompressWrites.bits9 (fun HT_ HW_ => ?_)
         generalize w144.drew = w145 at HO165 HO172 BK159 HB hHeld ⊢
         refine pu_ HT_ 0 56 (bl 9 1) ?_
         refine tk_ HT_ HW_ hHeld 2 58 (bl 9 5) ?_
         refine one_ (i := 1) (N := some 57) (bl 9 7) rfl rfl (one_of HT_.out (by kernel_rfl)) (by decide) (fun K hK => ?_)
         refine goes_ Try.func14 (by kernel_rfl) rfl #[.slice A0 l0.length c0] (by rfl) rfl rfl am_ ?_
         with_reducible refine (api_Context.calls _ _ l0 t177 _ ?side1 ?side2 A22.out).mono ?_
         (case side1 => repeat (first | exact (Kd.C_below HR0.out HB.out) | (with_reducible refine Kd.C_alloc ?_ _) | (with_reducible refine Kd.C_drewN ?_ _) | (with_reducible refine Kd.C_drew ?_)))
         (case side2 => exact HC0.out)
         rintro e w146 ⟨v178, rfl, ho0, hb⟩
         refine ⟨_, rfl, ?_⟩
         have n0_ := Aside0.mk (Kd.R_elder' (kr_ HO165) (Kd.R_base ho0) hb)
         have n1_ := Aside0.mk (Kd.R_elder' (kr_ HO172) (Kd.R_base ho0) hb)
         have n2_ := Aside0.mk (Kd.R_lower (Kd.R_new' (Kd.R_new' ho0 (Kd.R_lt (kr_ HO165))) (Kd.R_lt (kr_ HO172))) (below_size hb_))
         have n3_ := bk_ BK159 hb
         have n4_ := Aside0.mk (below_step hb_ hb)
         clear HO165
         clear HO172
         clear BK159
         clear HB
         have HO165 := n0_
         have HO172 := n1_
         have HO179 := n2_
         have BK159 := n3_
         have HB := n4_
         clear n0_ n1_ n2_ n3_ n4_
         (try clear hb)
         (try clear hb2)
         (try clear hk)
         (try clear hi)
         (try clear ho0)
         obtain ⟨Ao147, co147, eo147⟩ := Kd.R_slice HO179.out
         (first | subst eo147 | (injection eo147 with f1_ f2_ f3_; have f4_ := f1_.symm; have f5_ := f3_.symm; clear f1_ f2_ f3_; subst f4_; subst f5_))
         refine hK.out _ _ ⟨(blk_cell BK159.out 0).trans rfl, (blk_cell BK159.out 1).trans rfl, (blk_cell BK159.out 2).trans rfl, (blk_cell BK159.out 3).trans rfl, (blk_cell BK159.out 4).trans rfl, (blk_cell BK159.out 5).trans rfl, (blk_cell BK159.out 6).trans rfl⟩ (fun hHeld => ?_)
         clear hK K
         refine norm_ (a' := ?_) ?_ ?_
         rotate_left
         ·
          show Act.put _ (some 57) _ = _
          simp only [ap_, s0_, s1_, i64_w]
          rfl
         refine one_ (i := 3) (N := some 59) (bl 9 15) rfl rfl (one_of HT_.out (by kernel_rfl)) (by decide) (fun K hK => ?_)
         refine goes_ Try.func13 (by kernel_rfl) rfl #[.slice Ao147 t177.length co147, .agg #[.int .i64 a1_0, .int .i64 a1_1, .string a1_2, .string a1_3, .int .i64 a1_4, .int .i64 a1_5, .int .i64 a1_6]] (by rfl) rfl rfl am_ ?_
         with_reducible refine (compress_Bits.calls _ _ t177 a1_0 a1_1 a1_2 a1_3 a1_4 a1_5 a1_6 t180 t181 _ ?side1 ?side2 A23.out).mono ?_
         (case side1 => repeat (first | exact (Kd.R_reads' HO179.out).2.2 | (with_reducible refine Kd.C_alloc ?_ _) | (with_reducible refine Kd.C_drewN ?_ _) | (with_reducible refine Kd.C_drew ?_)))
         (case side2 => exact (Kd.R_reads' HO179.out).2.1)
         rintro e w148 ⟨rfl, hb⟩
         refine ⟨_, rfl, ?_⟩
         have n0_ := Aside0.mk (Kd.R_below (kr_ HO165) hb)
         have n1_ := Aside0.mk (Kd.R_below (kr_ HO172) hb)
         have n2_ := Aside0.mk (Kd.R_below (kr_ HO179) hb)
         have n3_ := bk_ BK159 hb
         have n4_ := Aside0.mk (below_step hb_ hb)
         clear HO165
         clear HO172
         clear HO179
         clear BK159
         clear HB
         have HO165 := n0_
         have HO172 := n1_
         have HO179 := n2_
         have BK159 := n3_
         have HB := n4_
         clear n0_ n1_ n2_ n3_ n4_
         (try clear hb)
         (try clear hb2)
         (try clear hk)
         (try clear hi)
         refine hK.out _ _ ⟨(blk_cell BK159.out 0).trans rfl, (blk_cell BK159.out 1).trans rfl, (blk_cell BK159.out 2).trans rfl, (blk_cell BK159.out 3).trans rfl, (blk_cell BK159.out 4).trans rfl, (blk_cell BK159.out 5).trans rfl, (blk_cell BK159.out 6).trans rfl⟩ (fun hHeld => ?_)
         clear hK K
         refine norm_ (a' := ?_) ?_ ?_
         rotate_left
         ·
          show Act.put _ (some 59) _ = _
          simp only [ap_, s0_, s1_, i64_w]
          rfl
         refine pu_ HT_ 4 55 (bl 9 31) ?_
         refine pu_ HT_ 5 60 (bl 9 63) ?_
         refine pu_ HT_ 6 61 (bl 9 127) ?_
         refine pu_ HT_ 7 13 (bl 9 255) ?_
         refine pu_ HT_ 8 14 (bl 9 511) ?_
         refine done_ (done_of HT_.out (by kernel_rfl)) ?_
         have hcz149_0 := bc0 BK159
         have hcz149_1 := bc1 BK159
         have hcz149_2 := bc2 BK159
         have hcz149_3 := bc3 BK159
         have hcz149_4 := bc4 BK159
         have hcz149_5 := bc5 BK159
         have hcz149_6 := bc6 BK159
         have hfz149_0 := blk_frozen BK159.out 0
         have hfz149_1 := blk_frozen BK159.out 1
         have hfz149_2 := blk_frozen BK159.out 2
         have hfz149_3 := blk_frozen BK159.out 3
         have hfz149_4 := blk_frozen BK159.out 4
         have hfz149_5 := blk_frozen BK159.out 5
         have hfz149_6 := blk_frozen BK159.out 6
         try go_wp2_with (first | ((with_reducible refine gate_callee (f := 19) rfl ?_); refine goesL_ (some 65) rfl rfl Try.func19 (by kernel_rfl) rfl #[.slice A0 l0.length c0, .agg #[.int .i64 a1_0, .int .i64 a1_1, .string a1_2, .string a1_3, .int .i64 a1_4, .int .i64 a1_5, .int .i64 a1_6]] rfl am_ ?_; (with_reducible refine (hopmeshref14_Bits.calls _ _ l0 a1_0 a1_1 a1_2 a1_3 a1_4 a1_5 a1_6 t182 t183 _ ?side1 ?side2 A24.out).mono ?_); (case side1 => repeat (first | exact (Kd.C_below HR0.out HB.out) | (with_reducible refine Kd.C_alloc ?_ _) | (with_reducible refine Kd.C_drewN ?_ _) | (with_reducible refine Kd.C_drew ?_))); (case side2 => exact HC0.out); rintro e w150 ⟨rfl, hb⟩; refine ⟨_, rfl, ?_⟩; have n0_ := Aside0.mk (Kd.R_below (kr_ HO165) hb); have n1_ := Aside0.mk (Kd.R_below (kr_ HO172) hb); have n2_ := Aside0.mk (Kd.R_below (kr_ HO179) hb); have n3_ := bk_ BK159 hb; have n4_ := Aside0.mk (below_step hb_ hb); clear HO165; clear HO172; clear HO179; clear BK159; clear HB; have HO165 := n0_; have HO172 := n1_; have HO179 := n2_; have BK159 := n3_; have HB := n4_; clear n0_ n1_ n2_ n3_ n4_; (try clear hb); (try clear hb2); (try clear hk); (try clear hi)))
         have n0_ := Aside0.mk (Kd.R_drew HO165.out)
         have n1_ := Aside0.mk (Kd.R_drew HO172.out)
         have n2_ := Aside0.mk (Kd.R_drew HO179.out)
         have n3_ := Aside0.mk (blk_drew BK159.out)
         have n4_ := Aside0.mk (below_drew1 HB.out)
         clear HO165
         clear HO172
         clear HO179
         clear BK159
         clear HB
         have HO165 := n0_
         have HO172 := n1_
         have HO179 := n2_
         have BK159 := n3_
         have HB := n4_
         clear n0_ n1_ n2_ n3_ n4_
         refine start_ (n := 44) (S := fun w' => w'.cell? ⟨gb159, 0, none⟩ = some (.int .i64 a1_0) ∧ w'.cell? ⟨gb159, 1, none⟩ = some (.int .i64 a1_1) ∧ w'.cell? ⟨gb159, 2, none⟩ = some (.string a1_2) ∧ w'.cell? ⟨gb159, 3, none⟩ = some (.string a1_3) ∧ w'.cell? ⟨gb159, 4, none⟩ = some (.int .i64 a1_4) ∧ w'.cell? ⟨gb159, 5, none⟩ = some (.int .i64 a1_5) ∧ w'.cell? ⟨gb159, 6, none⟩ = some (.int .i64 a1_6)) (ds := []) #[false, false, false, false, false, false, false, false, false, false, false, false, false, false, false, false, false, false, false, false, false, false, false, false, false, false, false, false, false, false, false, false, false, false, false, false, false, false, false, false, false, false, false, false] (by kernel_rfl) rfl rfl ⟨(blk_cell BK159.out 0).trans rfl, (blk_cell BK159.out 1).trans rfl, (blk_cell BK159.out 2).trans rfl, (blk_cell BK159.out 3).trans rfl, (blk_cell BK159.out 4).trans rfl, (blk_cell BK159.out 5).trans rfl, (blk_cell BK159.out 6).trans rfl⟩ (fun hHeld => ?_); refine with_tabW hopmeshlaw14_CompressWrites.tab11 hopmeshlaw14_CompressWrites.bits11 (fun HT_ HW_ => ?_)
         generalize w150.drew = w151 at HO165 HO172 HO179 BK159 HB hHeld ⊢
         refine tk_ HT_ HW_ hHeld 0 68 (bl 44 1) ?_
         refine tk_ HT_ HW_ hHeld 2 70 (bl 44 5) ?_
         refine one_ (i := 1) (N := some 69) (bl 44 7) rfl rfl (one_of HT_.out (by kernel_rfl)) (by decide) (fun K hK => ?_)
         refine goes_ Try.func20 (by kernel_rfl) rfl #[.agg #[.int .i64 a1_0, .int .i64 a1_1, .string a1_2, .string a1_3, .int .i64 a1_4, .int .i64 a1_5, .int .i64 a1_6]] (by rfl) rfl rfl am_ ?_
         with_reducible refine (compress_Check.calls kj4 a1_0 a1_1 a1_2 a1_3 a1_4 a1_5 a1_6 t184 _ A25.out).mono ?_
         rintro e w152 ⟨rfl, hb⟩
         refine ⟨_, rfl, ?_⟩
         have n0_ := Aside0.mk (Kd.R_below (kr_ HO165) hb)
         have n1_ := Aside0.mk (Kd.R_below (kr_ HO172) hb)
         have n2_ := Aside0.mk (Kd.R_below (kr_ HO179) hb)
         have n3_ := bk_ BK159 hb
         have n4_ := Aside0.mk (below_step hb_ hb)
         clear HO165
         clear HO172
         clear HO179
         clear BK159
         clear HB
         have HO165 := n0_
         have HO172 := n1_
         have HO179 := n2_
         have BK159 := n3_
         have HB := n4_
         clear n0_ n1_ n2_ n3_ n4_
         (try clear hb)
         (try clear hb2)
         (try clear hk)
         (try clear hi)
         refine hK.out _ _ ⟨(blk_cell BK159.out 0).trans rfl, (blk_cell BK159.out 1).trans rfl, (blk_cell BK159.out 2).trans rfl, (blk_cell BK159.out 3).trans rfl, (blk_cell BK159.out 4).trans rfl, (blk_cell BK159.out 5).trans rfl, (blk_cell BK159.out 6).trans rfl⟩ (fun hHeld => ?_)
         clear hK K
         refine norm_ (a' := ?_) ?_ ?_
         rotate_left
         ·
          show Act.put _ (some 69) _ = _
          simp only [ap_, s0_, s1_, i64_w]
          rfl
         refine one_ (i := 3) (N := some 71) (bl 44 15) rfl rfl (one_of HT_.out (by kernel_rfl)) (by decide) (fun K hK => ?_)
         refine goes_ Try.func21 (by kernel_rfl) rfl #[.agg #[.int .i64 a1_0, .int .i64 a1_1, .string a1_2, .string a1_3, .int .i64 a1_4, .int .i64 a1_5, .int .i64 a1_6]] (by rfl) rfl rfl am_ ?_
         with_reducible refine (hopmeshref14_Check.calls kj4 a1_0 a1_1 a1_2 a1_3 a1_4 a1_5 a1_6 t185 _ A26.out).mono ?_
         rintro e w153 ⟨rfl, hb⟩
         refine ⟨_, rfl, ?_⟩
         have n0_ := Aside0.mk (Kd.R_below (kr_ HO165) hb)
         have n1_ := Aside0.mk (Kd.R_below (kr_ HO172) hb)
         have n2_ := Aside0.mk (Kd.R_below (kr_ HO179) hb)
         have n3_ := bk_ BK159 hb
         have n4_ := Aside0.mk (below_step hb_ hb)
         clear HO165
         clear HO172
         clear HO179
         clear BK159
         clear HB
         have HO165 := n0_
         have HO172 := n1_
         have HO179 := n2_
         have BK159 := n3_
         have HB := n4_
         clear n0_ n1_ n2_ n3_ n4_
         (try clear hb)
         (try clear hb2)
         (try clear hk)
         (try clear hi)
         refine hK.out _ _ ⟨(blk_cell BK159.out 0).trans rfl, (blk_cell BK159.out 1).trans rfl, (blk_cell BK159.out 2).trans rfl, (blk_cell BK159.out 3).trans rfl, (blk_cell BK159.out 4).trans rfl, (blk_cell BK159.out 5).trans rfl, (blk_cell BK159.out 6).trans rfl⟩ (fun hHeld => ?_)
         clear hK K
         refine norm_ (a' := ?_) ?_ ?_
         rotate_left
         ·
          show Act.put _ (some 71) _ = _
          simp only [ap_, s0_, s1_, i64_w]
          rfl
         refine pu_ HT_ 4 72 (bl 44 31) ?_
         refine pu_ HT_ 5 73 (bl 44 63) ?_
         refine pu_ HT_ 6 74 (bl 44 127) ?_
         refine pu_ HT_ 9 77 (bl 44 639) ?_
         refine one_ (i := 7) (N := some 75) (bl 44 767) rfl rfl (one_of HT_.out (by kernel_rfl)) (by decide) (fun K hK => ?_)
         refine goes_ Try.func14 (by kernel_rfl) rfl #[.slice A0 l0.length c0] (by rfl) rfl rfl am_ ?_
         with_reducible refine (api_Context.calls _ _ l0 t186 _ ?side1 ?side2 A28.out).mono ?_
         (case side1 => repeat (first | exact (Kd.C_below HR0.out HB.out) | (with_reducible refine Kd.C_alloc ?_ _) | (with_reducible refine Kd.C_drewN ?_ _) | (with_reducible refine Kd.C_drew ?_)))
         (case side2 => exact HC0.out)
         rintro e w154 ⟨v187, rfl, ho0, hb⟩
         refine ⟨_, rfl, ?_⟩
         have n0_ := Aside0.mk (Kd.R_elder' (kr_ HO165) (Kd.R_base ho0) hb)
         have n1_ := Aside0.mk (Kd.R_elder' (kr_ HO172) (Kd.R_base ho0) hb)
         have n2_ := Aside0.mk (Kd.R_elder' (kr_ HO179) (Kd.R_base ho0) hb)
         have n3_ := Aside0.mk (Kd.R_lower (Kd.R_new' (Kd.R_new' (Kd.R_new' ho0 (Kd.R_lt (kr_ HO165))) (Kd.R_lt (kr_ HO172))) (Kd.R_lt (kr_ HO179))) (below_size hb_))
         have n4_ := bk_ BK159 hb
         have n5_ := Aside0.mk (below_step hb_ hb)
         clear HO165
         clear HO172
         clear HO179
         clear BK159
         clear HB
         have HO165 := n0_
         have HO172 := n1_
         have HO179 := n2_
         have HO188 := n3_
         have BK159 := n4_
         have HB := n5_
         clear n0_ n1_ n2_ n3_ n4_ n5_
         (try clear hb)
         (try clear hb2)
         (try clear hk)
         (try clear hi)
         (try clear ho0)
         obtain ⟨Ao155, co155, eo155⟩ := Kd.R_slice HO188.out
         (first | subst eo155 | (injection eo155 with f1_ f2_ f3_; have f4_ := f1_.symm; have f5_ := f3_.symm; clear f1_ f2_ f3_; subst f4_; subst f5_))
         refine hK.out _ _ ⟨(blk_cell BK159.out 0).trans rfl, (blk_cell BK159.out 1).trans rfl, (blk_cell BK159.out 2).trans rfl, (blk_cell BK159.out 3).trans rfl, (blk_cell BK159.out 4).trans rfl, (blk_cell BK159.out 5).trans rfl, (blk_cell BK159.out 6).trans rfl⟩ (fun hHeld => ?_)
         clear hK K
         refine norm_ (a' := ?_) ?_ ?_
         rotate_left
         ·
          show Act.put _ (some 75) _ = _
          simp only [ap_, s0_, s1_, i64_w]
          rfl
         refine one_ (i := 8) (N := some 76) (bl 44 1023) rfl rfl (one_of HT_.out (by kernel_rfl)) (by decide) (fun K hK => ?_)
         refine goes_ Try.func22 (by kernel_rfl) rfl #[.slice Ao155 t186.length co155] (by rfl) rfl rfl am_ ?_
         with_reducible refine (compress_Contexts.calls _ _ t186 t189 _ ?side1 ?side2 A29.out).mono ?_
         (case side1 => repeat (first | exact (Kd.R_reads' HO188.out).2.2 | (with_reducible refine Kd.C_alloc ?_ _) | (with_reducible refine Kd.C_drewN ?_ _) | (with_reducible refine Kd.C_drew ?_)))
         (case side2 => exact (Kd.R_reads' HO188.out).2.1)
         rintro e w156 ⟨rfl, hb⟩
         refine ⟨_, rfl, ?_⟩
         have n0_ := Aside0.mk (Kd.R_below (kr_ HO165) hb)
         have n1_ := Aside0.mk (Kd.R_below (kr_ HO172) hb)
         have n2_ := Aside0.mk (Kd.R_below (kr_ HO179) hb)
         have n3_ := Aside0.mk (Kd.R_below (kr_ HO188) hb)
         have n4_ := bk_ BK159 hb
         have n5_ := Aside0.mk (below_step hb_ hb)
         clear HO165
         clear HO172
         clear HO179
         clear HO188
         clear BK159
         clear HB
         have HO165 := n0_
         have HO172 := n1_
         have HO179 := n2_
         have HO188 := n3_
         have BK159 := n4_
         have HB := n5_
         clear n0_ n1_ n2_ n3_ n4_ n5_
         (try clear hb)
         (try clear hb2)
         (try clear hk)
         (try clear hi)
         refine hK.out _ _ ⟨(blk_cell BK159.out 0).trans rfl, (blk_cell BK159.out 1).trans rfl, (blk_cell BK159.out 2).trans rfl, (blk_cell BK159.out 3).trans rfl, (blk_cell BK159.out 4).trans rfl, (blk_cell BK159.out 5).trans rfl, (blk_cell BK159.out 6).trans rfl⟩ (fun hHeld => ?_)
         clear hK K
         refine norm_ (a' := ?_) ?_ ?_
         rotate_left
         ·
          show Act.put _ (some 76) _ = _
          simp only [ap_, s0_, s1_, i64_w]
          rfl
         refine one_ (i := 10) (N := some 78) (bl 44 2047) rfl rfl (one_of HT_.out (by kernel_rfl)) (by decide) (fun K hK => ?_)
         refine goes_ Try.func23 (by kernel_rfl) rfl #[.slice A0 l0.length c0] (by rfl) rfl rfl am_ ?_
         with_reducible refine (hopmeshref14_Contexts.calls kj4 _ _ l0 t190 _ ?side1 ?side2 A30.out).mono ?_
         (case side1 => repeat (first | exact (Kd.C_below HR0.out HB.out) | (with_reducible refine Kd.C_alloc ?_ _) | (with_reducible refine Kd.C_drewN ?_ _) | (with_reducible refine Kd.C_drew ?_)))
         (case side2 => exact HC0.out)
         rintro e w' ⟨rfl, ⟨nd, rfl⟩⟩
         refine ⟨_, rfl, ?_⟩
         refine hK.out _ _ ⟨(blk_cell BK159.out 0).trans rfl, (blk_cell BK159.out 1).trans rfl, (blk_cell BK159.out 2).trans rfl, (blk_cell BK159.out 3).trans rfl, (blk_cell BK159.out 4).trans rfl, (blk_cell BK159.out 5).trans rfl, (blk_cell BK159.out 6).trans rfl⟩ (fun hHeld => ?_)
         clear hK K
         refine norm_ (a' := ?_) ?_ ?_
         rotate_left
         ·
          show Act.put _ (some 78) _ = _
          simp only [ap_, s0_, s1_, i64_w]
          rfl
         refine pu_ HT_ 11 79 (bl 44 4095) ?_
         refine pu_ HT_ 12 80 (bl 44 8191) ?_
         refine pu_ HT_ 13 81 (bl 44 16383) ?_
         refine pu_ HT_ 14 82 (bl 44 32767) ?_
         refine pu_ HT_ 15 83 (bl 44 65535) ?_
         refine pu_ HT_ 16 84 (bl 44 131071) ?_
         refine pu_ HT_ 17 85 (bl 44 262143) ?_
         refine pu_ HT_ 18 86 (bl 44 524287) ?_
         refine pu_ HT_ 19 87 (bl 44 1048575) ?_
         refine pu_ HT_ 20 88 (bl 44 2097151) ?_
         refine pu_ HT_ 21 89 (bl 44 4194303) ?_
         refine pu_ HT_ 22 90 (bl 44 8388607) ?_
         refine pu_ HT_ 23 91 (bl 44 16777215) ?_
         refine of_ HT_ 24 92 (bl 44 33554431) ?_
         refine of_ HT_ 25 93 (bl 44 67108863) ?_
         refine of_ HT_ 26 94 (bl 44 134217727) ?_
         refine pu_ HT_ 27 95 (bl 44 268435455) ?_
         refine pu_ HT_ 28 96 (bl 44 536870911) ?_
         refine of_ HT_ 29 97 (bl 44 1073741823) ?_
         refine of_ HT_ 30 98 (bl 44 2147483647) ?_
         refine of_ HT_ 31 99 (bl 44 4294967295) ?_
         refine pu_ HT_ 32 100 (bl 44 8589934591) ?_
         refine pu_ HT_ 33 101 (bl 44 17179869183) ?_
         refine of_ HT_ 34 102 (bl 44 34359738367) ?_
         refine of_ HT_ 35 103 (bl 44 68719476735) ?_
         refine of_ HT_ 36 104 (bl 44 137438953471) ?_
         refine pu_ HT_ 37 105 (bl 44 274877906943) ?_
         refine pu_ HT_ 38 106 (bl 44 549755813887) ?_
         refine of_ HT_ 39 107 (bl 44 1099511627775) ?_
         refine of_ HT_ 40 108 (bl 44 2199023255551) ?_
         refine of_ HT_ 41 109 (bl 44 4398046511103) ?_
         refine pu_ HT_ 42 110 (bl 44 8796093022207) ?_
         refine pu_ HT_ 43 4 (bl 44 17592186044415) ?_
         refine done_ (done_of HT_.out (by kernel_rfl)) ?_
         try go_wp2
         go_ret
         exact ⟨er_, hb_⟩
       ·
        rw [if_neg c32] at H
        have c32b0 : (t166 == t168) = false := beq_eq_false_iff_ne.mpr c32
        have c32b1 : (t166 != t168) = true := bne_iff_ne.mpr c32
        obtain rfl := Option.some.inj H
        try go_wp2
        have n0_ := Aside0.mk (blk_drew BK159.out)
        have n1_ := Aside0.mk (below_drew1 HB.out)
        clear BK159
        clear HB
        have BK159 := n0_
        have HB := n1_
        clear n0_ n1_
        refine start_ (n := 10) (S := fun w' => w'.cell? ⟨gb159, 0, none⟩ = some (.int .i64 a1_0) ∧ w'.cell? ⟨gb159, 1, none⟩ = some (.int .i64 a1_1) ∧ w'.cell? ⟨gb159, 2, none⟩ = some (.string a1_2) ∧ w'.cell? ⟨gb159, 3, none⟩ = some (.string a1_3) ∧ w'.cell? ⟨gb159, 4, none⟩ = some (.int .i64 a1_4) ∧ w'.cell? ⟨gb159, 5, none⟩ = some (.int .i64 a1_5) ∧ w'.cell? ⟨gb159, 6, none⟩ = some (.int .i64 a1_6)) (ds := []) #[false, false, false, false, false, false, false, false, false, false] (by kernel_rfl) rfl rfl ⟨(blk_cell BK159.out 0).trans rfl, (blk_cell BK159.out 1).trans rfl, (blk_cell BK159.out 2).trans rfl, (blk_cell BK159.out 3).trans rfl, (blk_cell BK159.out 4).trans rfl, (blk_cell BK159.out 5).trans rfl, (blk_cell BK159.out 6).trans rfl⟩ (fun hHeld => ?_); refine with_tabW hopmeshlaw14_CompressWrites.tab5 hopmeshlaw14_CompressWrites.bits5 (fun HT_ HW_ => ?_)
        generalize wc.drew = w157 at BK159 HB hHeld ⊢
        refine pu_ HT_ 0 28 (bl 10 1) ?_
        refine pu_ HT_ 2 30 (bl 10 5) ?_
        refine tk_ HT_ HW_ hHeld 3 31 (bl 10 13) ?_
        refine one_ (i := 1) (N := some 29) (bl 10 15) rfl rfl (one_of HT_.out (by kernel_rfl)) (by decide) (fun K hK => ?_)
        refine goes_ Try.func14 (by kernel_rfl) rfl #[.slice A0 l0.length c0] (by rfl) rfl rfl am_ ?_
        with_reducible refine (api_Context.calls _ _ l0 t163 _ ?side1 ?side2 A16.out).mono ?_
        (case side1 => repeat (first | exact (Kd.C_below HR0.out HB.out) | (with_reducible refine Kd.C_alloc ?_ _) | (with_reducible refine Kd.C_drewN ?_ _) | (with_reducible refine Kd.C_drew ?_)))
        (case side2 => exact HC0.out)
        rintro e w158 ⟨v164, rfl, ho0, hb⟩
        refine ⟨_, rfl, ?_⟩
        have n0_ := Aside0.mk (Kd.R_lower ho0 (below_size hb_))
        have n1_ := bk_ BK159 hb
        have n2_ := Aside0.mk (below_step hb_ hb)
        clear BK159
        clear HB
        have HO165 := n0_
        have BK159 := n1_
        have HB := n2_
        clear n0_ n1_ n2_
        (try clear hb)
        (try clear hb2)
        (try clear hk)
        (try clear hi)
        (try clear ho0)
        obtain ⟨Ao159, co159, eo159⟩ := Kd.R_slice HO165.out
        (first | subst eo159 | (injection eo159 with f1_ f2_ f3_; have f4_ := f1_.symm; have f5_ := f3_.symm; clear f1_ f2_ f3_; subst f4_; subst f5_))
        refine hK.out _ _ ⟨(blk_cell BK159.out 0).trans rfl, (blk_cell BK159.out 1).trans rfl, (blk_cell BK159.out 2).trans rfl, (blk_cell BK159.out 3).trans rfl, (blk_cell BK159.out 4).trans rfl, (blk_cell BK159.out 5).trans rfl, (blk_cell BK159.out 6).trans rfl⟩ (fun hHeld => ?_)
        clear hK K
        refine norm_ (a' := ?_) ?_ ?_
        rotate_left
        ·
         show Act.put _ (some 29) _ = _
         simp only [ap_, s0_, s1_, i64_w]
         rfl
        refine one_ (i := 4) (N := some 32) (bl 10 31) rfl rfl (one_of HT_.out (by kernel_rfl)) (by decide) (fun K hK => ?_)
        refine goes_ Try.func15 (by kernel_rfl) rfl #[.slice Ao159 t163.length co159, .string a1_2] (by rfl) rfl rfl am_ ?_
        with_reducible refine (compress_Find.calls kj4 _ _ t163 a1_2 t166 t167 _ ?side1 ?side2 A17.out).mono ?_
        (case side1 => repeat (first | exact (Kd.R_reads' HO165.out).2.2 | (with_reducible refine Kd.C_alloc ?_ _) | (with_reducible refine Kd.C_drewN ?_ _) | (with_reducible refine Kd.C_drew ?_)))
        (case side2 => exact (Kd.R_reads' HO165.out).2.1)
        rintro e w160 ⟨rfl, hb⟩
        refine ⟨_, rfl, ?_⟩
        have n0_ := Aside0.mk (Kd.R_below (kr_ HO165) hb)
        have n1_ := bk_ BK159 hb
        have n2_ := Aside0.mk (below_step hb_ hb)
        clear HO165
        clear BK159
        clear HB
        have HO165 := n0_
        have BK159 := n1_
        have HB := n2_
        clear n0_ n1_ n2_
        (try clear hb)
        (try clear hb2)
        (try clear hk)
        (try clear hi)
        refine hK.out _ _ ⟨(blk_cell BK159.out 0).trans rfl, (blk_cell BK159.out 1).trans rfl, (blk_cell BK159.out 2).trans rfl, (blk_cell BK159.out 3).trans rfl, (blk_cell BK159.out 4).trans rfl, (blk_cell BK159.out 5).trans rfl, (blk_cell BK159.out 6).trans rfl⟩ (fun hHeld => ?_)
        clear hK K
        refine norm_ (a' := ?_) ?_ ?_
        rotate_left
        ·
         show Act.put _ (some 32) _ = _
         simp only [ap_, s0_, s1_, i64_w]
         rfl
        refine pu_ HT_ 5 27 (bl 10 63) ?_
        refine pu_ HT_ 6 33 (bl 10 127) ?_
        refine pu_ HT_ 7 34 (bl 10 255) ?_
        refine pu_ HT_ 8 5 (bl 10 511) ?_
        refine pu_ HT_ 9 6 (bl 10 1023) ?_
        refine done_ (done_of HT_.out (by kernel_rfl)) ?_
        have hcz161_0 := bc0 BK159
        have hcz161_1 := bc1 BK159
        have hcz161_2 := bc2 BK159
        have hcz161_3 := bc3 BK159
        have hcz161_4 := bc4 BK159
        have hcz161_5 := bc5 BK159
        have hcz161_6 := bc6 BK159
        have hfz161_0 := blk_frozen BK159.out 0
        have hfz161_1 := blk_frozen BK159.out 1
        have hfz161_2 := blk_frozen BK159.out 2
        have hfz161_3 := blk_frozen BK159.out 3
        have hfz161_4 := blk_frozen BK159.out 4
        have hfz161_5 := blk_frozen BK159.out 5
        have hfz161_6 := blk_frozen BK159.out 6
        try go_wp2_with (first | ((with_reducible refine gate_callee (f := 16) rfl ?_); refine goesL_ (some 39) rfl rfl Try.func16 (by kernel_rfl) rfl #[.slice A0 l0.length c0, .string a1_2] rfl am_ ?_; (with_reducible refine (hopmeshref14_Find.calls kj4 _ _ l0 a1_2 t168 t169 _ ?side1 ?side2 A18.out).mono ?_); (case side1 => repeat (first | exact (Kd.C_below HR0.out HB.out) | (with_reducible refine Kd.C_alloc ?_ _) | (with_reducible refine Kd.C_drewN ?_ _) | (with_reducible refine Kd.C_drew ?_))); (case side2 => exact HC0.out); rintro e w162 ⟨rfl, hb⟩; refine ⟨_, rfl, ?_⟩; have n0_ := Aside0.mk (Kd.R_below (kr_ HO165) hb); have n1_ := bk_ BK159 hb; have n2_ := Aside0.mk (below_step hb_ hb); clear HO165; clear BK159; clear HB; have HO165 := n0_; have BK159 := n1_; have HB := n2_; clear n0_ n1_ n2_; (try clear hb); (try clear hb2); (try clear hk); (try clear hi)))
        have n0_ := Aside0.mk (Kd.R_drew HO165.out)
        have n1_ := Aside0.mk (blk_drew BK159.out)
        have n2_ := Aside0.mk (below_drew1 HB.out)
        clear HO165
        clear BK159
        clear HB
        have HO165 := n0_
        have BK159 := n1_
        have HB := n2_
        clear n0_ n1_ n2_
        refine start_ (n := 9) (S := fun w' => w'.cell? ⟨gb159, 0, none⟩ = some (.int .i64 a1_0) ∧ w'.cell? ⟨gb159, 1, none⟩ = some (.int .i64 a1_1) ∧ w'.cell? ⟨gb159, 2, none⟩ = some (.string a1_2) ∧ w'.cell? ⟨gb159, 3, none⟩ = some (.string a1_3) ∧ w'.cell? ⟨gb159, 4, none⟩ = some (.int .i64 a1_4) ∧ w'.cell? ⟨gb159, 5, none⟩ = some (.int .i64 a1_5) ∧ w'.cell? ⟨gb159, 6, none⟩ = some (.int .i64 a1_6)) (ds := []) #[false, false, false, false, false, false, false, false, false] (by kernel_rfl) rfl rfl ⟨(blk_cell BK159.out 0).trans rfl, (blk_cell BK159.out 1).trans rfl, (blk_cell BK159.out 2).trans rfl, (blk_cell BK159.out 3).trans rfl, (blk_cell BK159.out 4).trans rfl, (blk_cell BK159.out 5).trans rfl, (blk_cell BK159.out 6).trans rfl⟩ (fun hHeld => ?_); refine with_tabW hopmeshlaw14_CompressWrites.tab7 hopmeshlaw14_CompressWrites.bits7 (fun HT_ HW_ => ?_)
        generalize w162.drew = w163 at HO165 BK159 HB hHeld ⊢
        refine pu_ HT_ 0 43 (bl 9 1) ?_
        refine tk_ HT_ HW_ hHeld 2 45 (bl 9 5) ?_
        refine one_ (i := 1) (N := some 44) (bl 9 7) rfl rfl (one_of HT_.out (by kernel_rfl)) (by decide) (fun K hK => ?_)
        refine goes_ Try.func14 (by kernel_rfl) rfl #[.slice A0 l0.length c0] (by rfl) rfl rfl am_ ?_
        with_reducible refine (api_Context.calls _ _ l0 t170 _ ?side1 ?side2 A19.out).mono ?_
        (case side1 => repeat (first | exact (Kd.C_below HR0.out HB.out) | (with_reducible refine Kd.C_alloc ?_ _) | (with_reducible refine Kd.C_drewN ?_ _) | (with_reducible refine Kd.C_drew ?_)))
        (case side2 => exact HC0.out)
        rintro e w164 ⟨v171, rfl, ho0, hb⟩
        refine ⟨_, rfl, ?_⟩
        have n0_ := Aside0.mk (Kd.R_elder' (kr_ HO165) (Kd.R_base ho0) hb)
        have n1_ := Aside0.mk (Kd.R_lower (Kd.R_new' ho0 (Kd.R_lt (kr_ HO165))) (below_size hb_))
        have n2_ := bk_ BK159 hb
        have n3_ := Aside0.mk (below_step hb_ hb)
        clear HO165
        clear BK159
        clear HB
        have HO165 := n0_
        have HO172 := n1_
        have BK159 := n2_
        have HB := n3_
        clear n0_ n1_ n2_ n3_
        (try clear hb)
        (try clear hb2)
        (try clear hk)
        (try clear hi)
        (try clear ho0)
        obtain ⟨Ao165, co165, eo165⟩ := Kd.R_slice HO172.out
        (first | subst eo165 | (injection eo165 with f1_ f2_ f3_; have f4_ := f1_.symm; have f5_ := f3_.symm; clear f1_ f2_ f3_; subst f4_; subst f5_))
        refine hK.out _ _ ⟨(blk_cell BK159.out 0).trans rfl, (blk_cell BK159.out 1).trans rfl, (blk_cell BK159.out 2).trans rfl, (blk_cell BK159.out 3).trans rfl, (blk_cell BK159.out 4).trans rfl, (blk_cell BK159.out 5).trans rfl, (blk_cell BK159.out 6).trans rfl⟩ (fun hHeld => ?_)
        clear hK K
        refine norm_ (a' := ?_) ?_ ?_
        rotate_left
        ·
         show Act.put _ (some 44) _ = _
         simp only [ap_, s0_, s1_, i64_w]
         rfl
        refine one_ (i := 3) (N := some 46) (bl 9 15) rfl rfl (one_of HT_.out (by kernel_rfl)) (by decide) (fun K hK => ?_)
        refine goes_ Try.func17 (by kernel_rfl) rfl #[.slice Ao165 t170.length co165, .agg #[.int .i64 a1_0, .int .i64 a1_1, .string a1_2, .string a1_3, .int .i64 a1_4, .int .i64 a1_5, .int .i64 a1_6]] (by rfl) rfl rfl am_ ?_
        with_reducible refine (compress_Compress.calls _ _ t170 a1_0 a1_1 a1_2 a1_3 a1_4 a1_5 a1_6 t173 t174 _ ?side1 ?side2 A20.out).mono ?_
        (case side1 => repeat (first | exact (Kd.R_reads' HO172.out).2.2 | (with_reducible refine Kd.C_alloc ?_ _) | (with_reducible refine Kd.C_drewN ?_ _) | (with_reducible refine Kd.C_drew ?_)))
        (case side2 => exact (Kd.R_reads' HO172.out).2.1)
        rintro e w166 ⟨rfl, hb⟩
        refine ⟨_, rfl, ?_⟩
        have n0_ := Aside0.mk (Kd.R_below (kr_ HO165) hb)
        have n1_ := Aside0.mk (Kd.R_below (kr_ HO172) hb)
        have n2_ := bk_ BK159 hb
        have n3_ := Aside0.mk (below_step hb_ hb)
        clear HO165
        clear HO172
        clear BK159
        clear HB
        have HO165 := n0_
        have HO172 := n1_
        have BK159 := n2_
        have HB := n3_
        clear n0_ n1_ n2_ n3_
        (try clear hb)
        (try clear hb2)
        (try clear hk)
        (try clear hi)
        refine hK.out _ _ ⟨(blk_cell BK159.out 0).trans rfl, (blk_cell BK159.out 1).trans rfl, (blk_cell BK159.out 2).trans rfl, (blk_cell BK159.out 3).trans rfl, (blk_cell BK159.out 4).trans rfl, (blk_cell BK159.out 5).trans rfl, (blk_cell BK159.out 6).trans rfl⟩ (fun hHeld => ?_)
        clear hK K
        refine norm_ (a' := ?_) ?_ ?_
        rotate_left
        ·
         show Act.put _ (some 46) _ = _
         simp only [ap_, s0_, s1_, i64_w]
         rfl
        refine pu_ HT_ 4 42 (bl 9 31) ?_
        refine pu_ HT_ 5 47 (bl 9 63) ?_
        refine pu_ HT_ 6 48 (bl 9 127) ?_
        refine pu_ HT_ 7 9 (bl 9 255) ?_
        refine pu_ HT_ 8 10 (bl 9 511) ?_
        refine done_ (done_of HT_.out (by kernel_rfl)) ?_
        have hcz167_0 := bc0 BK159
        have hcz167_1 := bc1 BK159
        have hcz167_2 := bc2 BK159
        have hcz167_3 := bc3 BK159
        have hcz167_4 := bc4 BK159
        have hcz167_5 := bc5 BK159
        have hcz167_6 := bc6 BK159
        have hfz167_0 := blk_frozen BK159.out 0
        have hfz167_1 := blk_frozen BK159.out 1
        have hfz167_2 := blk_frozen BK159.out 2
        have hfz167_3 := blk_frozen BK159.out 3
        have hfz167_4 := blk_frozen BK159.out 4
        have hfz167_5 := blk_frozen BK159.out 5
        have hfz167_6 := blk_frozen BK159.out 6
        try go_wp2_with (first | ((with_reducible refine gate_callee (f := 18) rfl ?_); refine goesL_ (some 52) rfl rfl Try.func18 (by kernel_rfl) rfl #[.slice A0 l0.length c0, .agg #[.int .i64 a1_0, .int .i64 a1_1, .string a1_2, .string a1_3, .int .i64 a1_4, .int .i64 a1_5, .int .i64 a1_6]] rfl am_ ?_; (with_reducible refine (hopmeshref14_Compress.calls _ _ l0 a1_0 a1_1 a1_2 a1_3 a1_4 a1_5 a1_6 t175 t176 _ ?side1 ?side2 A21.out).mono ?_); (case side1 => repeat (first | exact (Kd.C_below HR0.out HB.out) | (with_reducible refine Kd.C_alloc ?_ _) | (with_reducible refine Kd.C_drewN ?_ _) | (with_reducible refine Kd.C_drew ?_))); (case side2 => exact HC0.out); rintro e w168 ⟨rfl, hb⟩; refine ⟨_, rfl, ?_⟩; have n0_ := Aside0.mk (Kd.R_below (kr_ HO165) hb); have n1_ := Aside0.mk (Kd.R_below (kr_ HO172) hb); have n2_ := bk_ BK159 hb; have n3_ := Aside0.mk (below_step hb_ hb); clear HO165; clear HO172; clear BK159; clear HB; have HO165 := n0_; have HO172 := n1_; have BK159 := n2_; have HB := n3_; clear n0_ n1_ n2_ n3_; (try clear hb); (try clear hb2); (try clear hk); (try clear hi)))
        have n0_ := Aside0.mk (Kd.R_drew HO165.out)
        have n1_ := Aside0.mk (Kd.R_drew HO172.out)
        have n2_ := Aside0.mk (blk_drew BK159.out)
        have n3_ := Aside0.mk (below_drew1 HB.out)
        clear HO165
        clear HO172
        clear BK159
        clear HB
        have HO165 := n0_
        have HO172 := n1_
        have BK159 := n2_
        have HB := n3_
        clear n0_ n1_ n2_ n3_
        refine start_ (n := 9) (S := fun w' => w'.cell? ⟨gb159, 0, none⟩ = some (.int .i64 a1_0) ∧ w'.cell? ⟨gb159, 1, none⟩ = some (.int .i64 a1_1) ∧ w'.cell? ⟨gb159, 2, none⟩ = some (.string a1_2) ∧ w'.cell? ⟨gb159, 3, none⟩ = some (.string a1_3) ∧ w'.cell? ⟨gb159, 4, none⟩ = some (.int .i64 a1_4) ∧ w'.cell? ⟨gb159, 5, none⟩ = some (.int .i64 a1_5) ∧ w'.cell? ⟨gb159, 6, none⟩ = some (.int .i64 a1_6)) (ds := []) #[false, false, false, false, false, false, false, false, false] (by kernel_rfl) rfl rfl ⟨(blk_cell BK159.out 0).trans rfl, (blk_cell BK159.out 1).trans rfl, (blk_cell BK159.out 2).trans rfl, (blk_cell BK159.out 3).trans rfl, (blk_cell BK159.out 4).trans rfl, (blk_cell BK159.out 5).trans rfl, (blk_cell BK159.out 6).trans rfl⟩ (fun hHeld => ?_); refine with_tabW hopmeshlaw14_CompressWrites.tab9 hopmeshlaw14_CompressWrites.bits9 (fun HT_ HW_ => ?_)
        generalize w168.drew = w169 at HO165 HO172 BK159 HB hHeld ⊢
        refine pu_ HT_ 0 56 (bl 9 1) ?_
        refine tk_ HT_ HW_ hHeld 2 58 (bl 9 5) ?_
        refine one_ (i := 1) (N := some 57) (bl 9 7) rfl rfl (one_of HT_.out (by kernel_rfl)) (by decide) (fun K hK => ?_)
        refine goes_ Try.func14 (by kernel_rfl) rfl #[.slice A0 l0.length c0] (by rfl) rfl rfl am_ ?_
        with_reducible refine (api_Context.calls _ _ l0 t177 _ ?side1 ?side2 A22.out).mono ?_
        (case side1 => repeat (first | exact (Kd.C_below HR0.out HB.out) | (with_reducible refine Kd.C_alloc ?_ _) | (with_reducible refine Kd.C_drewN ?_ _) | (with_reducible refine Kd.C_drew ?_)))
        (case side2 => exact HC0.out)
        rintro e w170 ⟨v178, rfl, ho0, hb⟩
        refine ⟨_, rfl, ?_⟩
        have n0_ := Aside0.mk (Kd.R_elder' (kr_ HO165) (Kd.R_base ho0) hb)
        have n1_ := Aside0.mk (Kd.R_elder' (kr_ HO172) (Kd.R_base ho0) hb)
        have n2_ := Aside0.mk (Kd.R_lower (Kd.R_new' (Kd.R_new' ho0 (Kd.R_lt (kr_ HO165))) (Kd.R_lt (kr_ HO172))) (below_size hb_))
        have n3_ := bk_ BK159 hb
        have n4_ := Aside0.mk (below_step hb_ hb)
        clear HO165
        clear HO172
        clear BK159
        clear HB
        have HO165 := n0_
        have HO172 := n1_
        have HO179 := n2_
        have BK159 := n3_
        have HB := n4_
        clear n0_ n1_ n2_ n3_ n4_
        (try clear hb)
        (try clear hb2)
        (try clear hk)
        (try clear hi)
        (try clear ho0)
        obtain ⟨Ao171, co171, eo171⟩ := Kd.R_slice HO179.out
        (first | subst eo171 | (injection eo171 with f1_ f2_ f3_; have f4_ := f1_.symm; have f5_ := f3_.symm; clear f1_ f2_ f3_; subst f4_; subst f5_))
        refine hK.out _ _ ⟨(blk_cell BK159.out 0).trans rfl, (blk_cell BK159.out 1).trans rfl, (blk_cell BK159.out 2).trans rfl, (blk_cell BK159.out 3).trans rfl, (blk_cell BK159.out 4).trans rfl, (blk_cell BK159.out 5).trans rfl, (blk_cell BK159.out 6).trans rfl⟩ (fun hHeld => ?_)
        clear hK K
        refine norm_ (a' := ?_) ?_ ?_
        rotate_left
        ·
         show Act.put _ (some 57) _ = _
         simp only [ap_, s0_, s1_, i64_w]
         rfl
        refine one_ (i := 3) (N := some 59) (bl 9 15) rfl rfl (one_of HT_.out (by kernel_rfl)) (by decide) (fun K hK => ?_)
        refine goes_ Try.func13 (by kernel_rfl) rfl #[.slice Ao171 t177.length co171, .agg #[.int .i64 a1_0, .int .i64 a1_1, .string a1_2, .string a1_3, .int .i64 a1_4, .int .i64 a1_5, .int .i64 a1_6]] (by rfl) rfl rfl am_ ?_
        with_reducible refine (compress_Bits.calls _ _ t177 a1_0 a1_1 a1_2 a1_3 a1_4 a1_5 a1_6 t180 t181 _ ?side1 ?side2 A23.out).mono ?_
        (case side1 => repeat (first | exact (Kd.R_reads' HO179.out).2.2 | (with_reducible refine Kd.C_alloc ?_ _) | (with_reducible refine Kd.C_drewN ?_ _) | (with_reducible refine Kd.C_drew ?_)))
        (case side2 => exact (Kd.R_reads' HO179.out).2.1)
        rintro e w172 ⟨rfl, hb⟩
        refine ⟨_, rfl, ?_⟩
        have n0_ := Aside0.mk (Kd.R_below (kr_ HO165) hb)
        have n1_ := Aside0.mk (Kd.R_below (kr_ HO172) hb)
        have n2_ := Aside0.mk (Kd.R_below (kr_ HO179) hb)
        have n3_ := bk_ BK159 hb
        have n4_ := Aside0.mk (below_step hb_ hb)
        clear HO165
        clear HO172
        clear HO179
        clear BK159
        clear HB
        have HO165 := n0_
        have HO172 := n1_
        have HO179 := n2_
        have BK159 := n3_
        have HB := n4_
        clear n0_ n1_ n2_ n3_ n4_
        (try clear hb)
        (try clear hb2)
        (try clear hk)
        (try clear hi)
        refine hK.out _ _ ⟨(blk_cell BK159.out 0).trans rfl, (blk_cell BK159.out 1).trans rfl, (blk_cell BK159.out 2).trans rfl, (blk_cell BK159.out 3).trans rfl, (blk_cell BK159.out 4).trans rfl, (blk_cell BK159.out 5).trans rfl, (blk_cell BK159.out 6).trans rfl⟩ (fun hHeld => ?_)
        clear hK K
        refine norm_ (a' := ?_) ?_ ?_
        rotate_left
        ·
         show Act.put _ (some 59) _ = _
         simp only [ap_, s0_, s1_, i64_w]
         rfl
        refine pu_ HT_ 4 55 (bl 9 31) ?_
        refine pu_ HT_ 5 60 (bl 9 63) ?_
        refine pu_ HT_ 6 61 (bl 9 127) ?_
        refine pu_ HT_ 7 13 (bl 9 255) ?_
        refine pu_ HT_ 8 14 (bl 9 511) ?_
        refine done_ (done_of HT_.out (by kernel_rfl)) ?_
        have hcz173_0 := bc0 BK159
        have hcz173_1 := bc1 BK159
        have hcz173_2 := bc2 BK159
        have hcz173_3 := bc3 BK159
        have hcz173_4 := bc4 BK159
        have hcz173_5 := bc5 BK159
        have hcz173_6 := bc6 BK159
        have hfz173_0 := blk_frozen BK159.out 0
        have hfz173_1 := blk_frozen BK159.out 1
        have hfz173_2 := blk_frozen BK159.out 2
        have hfz173_3 := blk_frozen BK159.out 3
        have hfz173_4 := blk_frozen BK159.out 4
        have hfz173_5 := blk_frozen BK159.out 5
        have hfz173_6 := blk_frozen BK159.out 6
        try go_wp2_with (first | ((with_reducible refine gate_callee (f := 19) rfl ?_); refine goesL_ (some 65) rfl rfl Try.func19 (by kernel_rfl) rfl #[.slice A0 l0.length c0, .agg #[.int .i64 a1_0, .int .i64 a1_1, .string a1_2, .string a1_3, .int .i64 a1_4, .int .i64 a1_5, .int .i64 a1_6]] rfl am_ ?_; (with_reducible refine (hopmeshref14_Bits.calls _ _ l0 a1_0 a1_1 a1_2 a1_3 a1_4 a1_5 a1_6 t182 t183 _ ?side1 ?side2 A24.out).mono ?_); (case side1 => repeat (first | exact (Kd.C_below HR0.out HB.out) | (with_reducible refine Kd.C_alloc ?_ _) | (with_reducible refine Kd.C_drewN ?_ _) | (with_reducible refine Kd.C_drew ?_))); (case side2 => exact HC0.out); rintro e w174 ⟨rfl, hb⟩; refine ⟨_, rfl, ?_⟩; have n0_ := Aside0.mk (Kd.R_below (kr_ HO165) hb); have n1_ := Aside0.mk (Kd.R_below (kr_ HO172) hb); have n2_ := Aside0.mk (Kd.R_below (kr_ HO179) hb); have n3_ := bk_ BK159 hb; have n4_ := Aside0.mk (below_step hb_ hb); clear HO165; clear HO172; clear HO179; clear BK159; clear HB; have HO165 := n0_; have HO172 := n1_; have HO179 := n2_; have BK159 := n3_; have HB := n4_; clear n0_ n1_ n2_ n3_ n4_; (try clear hb); (try clear hb2); (try clear hk); (try clear hi)))
        have n0_ := Aside0.mk (Kd.R_drew HO165.out)
        have n1_ := Aside0.mk (Kd.R_drew HO172.out)
        have n2_ := Aside0.mk (Kd.R_drew HO179.out)
        have n3_ := Aside0.mk (blk_drew BK159.out)
        have n4_ := Aside0.mk (below_drew1 HB.out)
        clear HO165
        clear HO172
        clear HO179
        clear BK159
        clear HB
        have HO165 := n0_
        have HO172 := n1_
        have HO179 := n2_
        have BK159 := n3_
        have HB := n4_
        clear n0_ n1_ n2_ n3_ n4_
        refine start_ (n := 44) (S := fun w' => w'.cell? ⟨gb159, 0, none⟩ = some (.int .i64 a1_0) ∧ w'.cell? ⟨gb159, 1, none⟩ = some (.int .i64 a1_1) ∧ w'.cell? ⟨gb159, 2, none⟩ = some (.string a1_2) ∧ w'.cell? ⟨gb159, 3, none⟩ = some (.string a1_3) ∧ w'.cell? ⟨gb159, 4, none⟩ = some (.int .i64 a1_4) ∧ w'.cell? ⟨gb159, 5, none⟩ = some (.int .i64 a1_5) ∧ w'.cell? ⟨gb159, 6, none⟩ = some (.int .i64 a1_6)) (ds := []) #[false, false, false, false, false, false, false, false, false, false, false, false, false, false, false, false, false, false, false, false, false, false, false, false, false, false, false, false, false, false, false, false, false, false, false, false, false, false, false, false, false, false, false, false] (by kernel_rfl) rfl rfl ⟨(blk_cell BK159.out 0).trans rfl, (blk_cell BK159.out 1).trans rfl, (blk_cell BK159.out 2).trans rfl, (blk_cell BK159.out 3).trans rfl, (blk_cell BK159.out 4).trans rfl, (blk_cell BK159.out 5).trans rfl, (blk_cell BK159.out 6).trans rfl⟩ (fun hHeld => ?_); refine with_tabW hopmeshlaw14_CompressWrites.tab11 hopmeshlaw14_CompressWrites.bits11 (fun HT_ HW_ => ?_)
        generalize w174.drew = w175 at HO165 HO172 HO179 BK159 HB hHeld ⊢
        refine tk_ HT_ HW_ hHeld 0 68 (bl 44 1) ?_
        refine tk_ HT_ HW_ hHeld 2 70 (bl 44 5) ?_
        refine one_ (i := 1) (N := some 69) (bl 44 7) rfl rfl (one_of HT_.out (by kernel_rfl)) (by decide) (fun K hK => ?_)
        refine goes_ Try.func20 (by kernel_rfl) rfl #[.agg #[.int .i64 a1_0, .int .i64 a1_1, .string a1_2, .string a1_3, .int .i64 a1_4, .int .i64 a1_5, .int .i64 a1_6]] (by rfl) rfl rfl am_ ?_
        with_reducible refine (compress_Check.calls kj4 a1_0 a1_1 a1_2 a1_3 a1_4 a1_5 a1_6 t184 _ A25.out).mono ?_
        rintro e w176 ⟨rfl, hb⟩
        refine ⟨_, rfl, ?_⟩
        have n0_ := Aside0.mk (Kd.R_below (kr_ HO165) hb)
        have n1_ := Aside0.mk (Kd.R_below (kr_ HO172) hb)
        have n2_ := Aside0.mk (Kd.R_below (kr_ HO179) hb)
        have n3_ := bk_ BK159 hb
        have n4_ := Aside0.mk (below_step hb_ hb)
        clear HO165
        clear HO172
        clear HO179
        clear BK159
        clear HB
        have HO165 := n0_
        have HO172 := n1_
        have HO179 := n2_
        have BK159 := n3_
        have HB := n4_
        clear n0_ n1_ n2_ n3_ n4_
        (try clear hb)
        (try clear hb2)
        (try clear hk)
        (try clear hi)
        refine hK.out _ _ ⟨(blk_cell BK159.out 0).trans rfl, (blk_cell BK159.out 1).trans rfl, (blk_cell BK159.out 2).trans rfl, (blk_cell BK159.out 3).trans rfl, (blk_cell BK159.out 4).trans rfl, (blk_cell BK159.out 5).trans rfl, (blk_cell BK159.out 6).trans rfl⟩ (fun hHeld => ?_)
        clear hK K
        refine norm_ (a' := ?_) ?_ ?_
        rotate_left
        ·
         show Act.put _ (some 69) _ = _
         simp only [ap_, s0_, s1_, i64_w]
         rfl
        refine one_ (i := 3) (N := some 71) (bl 44 15) rfl rfl (one_of HT_.out (by kernel_rfl)) (by decide) (fun K hK => ?_)
        refine goes_ Try.func21 (by kernel_rfl) rfl #[.agg #[.int .i64 a1_0, .int .i64 a1_1, .string a1_2, .string a1_3, .int .i64 a1_4, .int .i64 a1_5, .int .i64 a1_6]] (by rfl) rfl rfl am_ ?_
        with_reducible refine (hopmeshref14_Check.calls kj4 a1_0 a1_1 a1_2 a1_3 a1_4 a1_5 a1_6 t185 _ A26.out).mono ?_
        rintro e w177 ⟨rfl, hb⟩
        refine ⟨_, rfl, ?_⟩
        have n0_ := Aside0.mk (Kd.R_below (kr_ HO165) hb)
        have n1_ := Aside0.mk (Kd.R_below (kr_ HO172) hb)
        have n2_ := Aside0.mk (Kd.R_below (kr_ HO179) hb)
        have n3_ := bk_ BK159 hb
        have n4_ := Aside0.mk (below_step hb_ hb)
        clear HO165
        clear HO172
        clear HO179
        clear BK159
        clear HB
        have HO165 := n0_
        have HO172 := n1_
        have HO179 := n2_
        have BK159 := n3_
        have HB := n4_
        clear n0_ n1_ n2_ n3_ n4_
        (try clear hb)
        (try clear hb2)
        (try clear hk)
        (try clear hi)
        refine hK.out _ _ ⟨(blk_cell BK159.out 0).trans rfl, (blk_cell BK159.out 1).trans rfl, (blk_cell BK159.out 2).trans rfl, (blk_cell BK159.out 3).trans rfl, (blk_cell BK159.out 4).trans rfl, (blk_cell BK159.out 5).trans rfl, (blk_cell BK159.out 6).trans rfl⟩ (fun hHeld => ?_)
        clear hK K
        refine norm_ (a' := ?_) ?_ ?_
        rotate_left
        ·
         show Act.put _ (some 71) _ = _
         simp only [ap_, s0_, s1_, i64_w]
         rfl
        refine pu_ HT_ 4 72 (bl 44 31) ?_
        refine pu_ HT_ 5 73 (bl 44 63) ?_
        refine pu_ HT_ 6 74 (bl 44 127) ?_
        refine pu_ HT_ 9 77 (bl 44 639) ?_
        refine one_ (i := 7) (N := some 75) (bl 44 767) rfl rfl (one_of HT_.out (by kernel_rfl)) (by decide) (fun K hK => ?_)
        refine goes_ Try.func14 (by kernel_rfl) rfl #[.slice A0 l0.length c0] (by rfl) rfl rfl am_ ?_
        with_reducible refine (api_Context.calls _ _ l0 t186 _ ?side1 ?side2 A28.out).mono ?_
        (case side1 => repeat (first | exact (Kd.C_below HR0.out HB.out) | (with_reducible refine Kd.C_alloc ?_ _) | (with_reducible refine Kd.C_drewN ?_ _) | (with_reducible refine Kd.C_drew ?_)))
        (case side2 => exact HC0.out)
        rintro e w178 ⟨v187, rfl, ho0, hb⟩
        refine ⟨_, rfl, ?_⟩
        have n0_ := Aside0.mk (Kd.R_elder' (kr_ HO165) (Kd.R_base ho0) hb)
        have n1_ := Aside0.mk (Kd.R_elder' (kr_ HO172) (Kd.R_base ho0) hb)
        have n2_ := Aside0.mk (Kd.R_elder' (kr_ HO179) (Kd.R_base ho0) hb)
        have n3_ := Aside0.mk (Kd.R_lower (Kd.R_new' (Kd.R_new' (Kd.R_new' ho0 (Kd.R_lt (kr_ HO165))) (Kd.R_lt (kr_ HO172))) (Kd.R_lt (kr_ HO179))) (below_size hb_))
        have n4_ := bk_ BK159 hb
        have n5_ := Aside0.mk (below_step hb_ hb)
        clear HO165
        clear HO172
        clear HO179
        clear BK159
        clear HB
        have HO165 := n0_
        have HO172 := n1_
        have HO179 := n2_
        have HO188 := n3_
        have BK159 := n4_
        have HB := n5_
        clear n0_ n1_ n2_ n3_ n4_ n5_
        (try clear hb)
        (try clear hb2)
        (try clear hk)
        (try clear hi)
        (try clear ho0)
        obtain ⟨Ao179, co179, eo179⟩ := Kd.R_slice HO188.out
        (first | subst eo179 | (injection eo179 with f1_ f2_ f3_; have f4_ := f1_.symm; have f5_ := f3_.symm; clear f1_ f2_ f3_; subst f4_; subst f5_))
        refine hK.out _ _ ⟨(blk_cell BK159.out 0).trans rfl, (blk_cell BK159.out 1).trans rfl, (blk_cell BK159.out 2).trans rfl, (blk_cell BK159.out 3).trans rfl, (blk_cell BK159.out 4).trans rfl, (blk_cell BK159.out 5).trans rfl, (blk_cell BK159.out 6).trans rfl⟩ (fun hHeld => ?_)
        clear hK K
        refine norm_ (a' := ?_) ?_ ?_
        rotate_left
        ·
         show Act.put _ (some 75) _ = _
         simp only [ap_, s0_, s1_, i64_w]
         rfl
        refine one_ (i := 8) (N := some 76) (bl 44 1023) rfl rfl (one_of HT_.out (by kernel_rfl)) (by decide) (fun K hK => ?_)
        refine goes_ Try.func22 (by kernel_rfl) rfl #[.slice Ao179 t186.length co179] (by rfl) rfl rfl am_ ?_
        with_reducible refine (compress_Contexts.calls _ _ t186 t189 _ ?side1 ?side2 A29.out).mono ?_
        (case side1 => repeat (first | exact (Kd.R_reads' HO188.out).2.2 | (with_reducible refine Kd.C_alloc ?_ _) | (with_reducible refine Kd.C_drewN ?_ _) | (with_reducible refine Kd.C_drew ?_)))
        (case side2 => exact (Kd.R_reads' HO188.out).2.1)
        rintro e w180 ⟨rfl, hb⟩
        refine ⟨_, rfl, ?_⟩
        have n0_ := Aside0.mk (Kd.R_below (kr_ HO165) hb)
        have n1_ := Aside0.mk (Kd.R_below (kr_ HO172) hb)
        have n2_ := Aside0.mk (Kd.R_below (kr_ HO179) hb)
        have n3_ := Aside0.mk (Kd.R_below (kr_ HO188) hb)
        have n4_ := bk_ BK159 hb
        have n5_ := Aside0.mk (below_step hb_ hb)
        clear HO165
        clear HO172
        clear HO179
        clear HO188
        clear BK159
        clear HB
        have HO165 := n0_
        have HO172 := n1_
        have HO179 := n2_
        have HO188 := n3_
        have BK159 := n4_
        have HB := n5_
        clear n0_ n1_ n2_ n3_ n4_ n5_
        (try clear hb)
        (try clear hb2)
        (try clear hk)
        (try clear hi)
        refine hK.out _ _ ⟨(blk_cell BK159.out 0).trans rfl, (blk_cell BK159.out 1).trans rfl, (blk_cell BK159.out 2).trans rfl, (blk_cell BK159.out 3).trans rfl, (blk_cell BK159.out 4).trans rfl, (blk_cell BK159.out 5).trans rfl, (blk_cell BK159.out 6).trans rfl⟩ (fun hHeld => ?_)
        clear hK K
        refine norm_ (a' := ?_) ?_ ?_
        rotate_left
        ·
         show Act.put _ (some 76) _ = _
         simp only [ap_, s0_, s1_, i64_w]
         rfl
        refine one_ (i := 10) (N := some 78) (bl 44 2047) rfl rfl (one_of HT_.out (by kernel_rfl)) (by decide) (fun K hK => ?_)
        refine goes_ Try.func23 (by kernel_rfl) rfl #[.slice A0 l0.length c0] (by rfl) rfl rfl am_ ?_
        with_reducible refine (hopmeshref14_Contexts.calls kj4 _ _ l0 t190 _ ?side1 ?side2 A30.out).mono ?_
        (case side1 => repeat (first | exact (Kd.C_below HR0.out HB.out) | (with_reducible refine Kd.C_alloc ?_ _) | (with_reducible refine Kd.C_drewN ?_ _) | (with_reducible refine Kd.C_drew ?_)))
        (case side2 => exact HC0.out)
        rintro e w' ⟨rfl, ⟨nd, rfl⟩⟩
        refine ⟨_, rfl, ?_⟩
        refine hK.out _ _ ⟨(blk_cell BK159.out 0).trans rfl, (blk_cell BK159.out 1).trans rfl, (blk_cell BK159.out 2).trans rfl, (blk_cell BK159.out 3).trans rfl, (blk_cell BK159.out 4).trans rfl, (blk_cell BK159.out 5).trans rfl, (blk_cell BK159.out 6).trans rfl⟩ (fun hHeld => ?_)
        clear hK K
        refine norm_ (a' := ?_) ?_ ?_
        rotate_left
        ·
         show Act.put _ (some 78) _ = _
         simp only [ap_, s0_, s1_, i64_w]
         rfl
        refine pu_ HT_ 11 79 (bl 44 4095) ?_
        refine pu_ HT_ 12 80 (bl 44 8191) ?_
        refine pu_ HT_ 13 81 (bl 44 16383) ?_
        refine pu_ HT_ 14 82 (bl 44 32767) ?_
        refine pu_ HT_ 15 83 (bl 44 65535) ?_
        refine pu_ HT_ 16 84 (bl 44 131071) ?_
        refine pu_ HT_ 17 85 (bl 44 262143) ?_
        refine pu_ HT_ 18 86 (bl 44 524287) ?_
        refine of_ HT_ 19 87 (bl 44 1048575) ?_
        refine of_ HT_ 20 88 (bl 44 2097151) ?_
        refine of_ HT_ 21 89 (bl 44 4194303) ?_
        refine pu_ HT_ 22 90 (bl 44 8388607) ?_
        refine pu_ HT_ 23 91 (bl 44 16777215) ?_
        refine of_ HT_ 24 92 (bl 44 33554431) ?_
        refine of_ HT_ 25 93 (bl 44 67108863) ?_
        refine of_ HT_ 26 94 (bl 44 134217727) ?_
        refine pu_ HT_ 27 95 (bl 44 268435455) ?_
        refine pu_ HT_ 28 96 (bl 44 536870911) ?_
        refine of_ HT_ 29 97 (bl 44 1073741823) ?_
        refine of_ HT_ 30 98 (bl 44 2147483647) ?_
        refine of_ HT_ 31 99 (bl 44 4294967295) ?_
        refine pu_ HT_ 32 100 (bl 44 8589934591) ?_
        refine pu_ HT_ 33 101 (bl 44 17179869183) ?_
        refine of_ HT_ 34 102 (bl 44 34359738367) ?_
        refine of_ HT_ 35 103 (bl 44 68719476735) ?_
        refine of_ HT_ 36 104 (bl 44 137438953471) ?_
        refine pu_ HT_ 37 105 (bl 44 274877906943) ?_
        refine pu_ HT_ 38 106 (bl 44 549755813887) ?_
        refine of_ HT_ 39 107 (bl 44 1099511627775) ?_
        refine of_ HT_ 40 108 (bl 44 2199023255551) ?_
        refine of_ HT_ 41 109 (bl 44 4398046511103) ?_
        refine pu_ HT_ 42 110 (bl 44 8796093022207) ?_
        refine pu_ HT_ 43 4 (bl 44 17592186044415) ?_
        refine done_ (done_of HT_.out (by kernel_rfl)) ?_
        try go_wp2
        go_ret
        exact ⟨er_, hb_⟩
      ·
       rw [if_neg c31] at H
       have c31b0 : (t189 == t190) = false := beq_eq_false_iff_ne.mpr c31
       have c31b1 : (t189 != t190) = true := bne_iff_ne.mpr c31
       obtain rfl := Option.some.inj H
       try go_wp2
       have n0_ := Aside0.mk (blk_drew BK159.out)
       have n1_ := Aside0.mk (below_drew1 HB.out)
       clear BK159
       clear HB
       have BK159 := n0_
       have HB := n1_
       clear n0_ n1_
       refine start_ (n := 10) (S := fun w' => w'.cell? ⟨gb159, 0, none⟩ = some (.int .i64 a1_0) ∧ w'.cell? ⟨gb159, 1, none⟩ = some (.int .i64 a1_1) ∧ w'.cell? ⟨gb159, 2, none⟩ = some (.string a1_2) ∧ w'.cell? ⟨gb159, 3, none⟩ = some (.string a1_3) ∧ w'.cell? ⟨gb159, 4, none⟩ = some (.int .i64 a1_4) ∧ w'.cell? ⟨gb159, 5, none⟩ = some (.int .i64 a1_5) ∧ w'.cell? ⟨gb159, 6, none⟩ = some (.int .i64 a1_6)) (ds := []) #[false, false, false, false, false, false, false, false, false, false] (by kernel_rfl) rfl rfl ⟨(blk_cell BK159.out 0).trans rfl, (blk_cell BK159.out 1).trans rfl, (blk_cell BK159.out 2).trans rfl, (blk_cell BK159.out 3).trans rfl, (blk_cell BK159.out 4).trans rfl, (blk_cell BK159.out 5).trans rfl, (blk_cell BK159.out 6).trans rfl⟩ (fun hHeld => ?_); refine with_tabW hopmeshlaw14_CompressWrites.tab5 hopmeshlaw14_CompressWrites.bits5 (fun HT_ HW_ => ?_)
       generalize wc.drew = w181 at BK159 HB hHeld ⊢
       refine pu_ HT_ 0 28 (bl 10 1) ?_
       refine pu_ HT_ 2 30 (bl 10 5) ?_
       refine tk_ HT_ HW_ hHeld 3 31 (bl 10 13) ?_
       refine one_ (i := 1) (N := some 29) (bl 10 15) rfl rfl (one_of HT_.out (by kernel_rfl)) (by decide) (fun K hK => ?_)
       refine goes_ Try.func14 (by kernel_rfl) rfl #[.slice A0 l0.length c0] (by rfl) rfl rfl am_ ?_
       with_reducible refine (api_Context.calls _ _ l0 t163 _ ?side1 ?side2 A16.out).mono ?_
       (case side1 => repeat (first | exact (Kd.C_below HR0.out HB.out) | (with_reducible refine Kd.C_alloc ?_ _) | (with_reducible refine Kd.C_drewN ?_ _) | (with_reducible refine Kd.C_drew ?_)))
       (case side2 => exact HC0.out)
       rintro e w182 ⟨v164, rfl, ho0, hb⟩
       refine ⟨_, rfl, ?_⟩
       have n0_ := Aside0.mk (Kd.R_lower ho0 (below_size hb_))
       have n1_ := bk_ BK159 hb
       have n2_ := Aside0.mk (below_step hb_ hb)
       clear BK159
       clear HB
       have HO165 := n0_
       have BK159 := n1_
       have HB := n2_
       clear n0_ n1_ n2_
       (try clear hb)
       (try clear hb2)
       (try clear hk)
       (try clear hi)
       (try clear ho0)
       obtain ⟨Ao183, co183, eo183⟩ := Kd.R_slice HO165.out
       (first | subst eo183 | (injection eo183 with f1_ f2_ f3_; have f4_ := f1_.symm; have f5_ := f3_.symm; clear f1_ f2_ f3_; subst f4_; subst f5_))
       refine hK.out _ _ ⟨(blk_cell BK159.out 0).trans rfl, (blk_cell BK159.out 1).trans rfl, (blk_cell BK159.out 2).trans rfl, (blk_cell BK159.out 3).trans rfl, (blk_cell BK159.out 4).trans rfl, (blk_cell BK159.out 5).trans rfl, (blk_cell BK159.out 6).trans rfl⟩ (fun hHeld => ?_)
       clear hK K
       refine norm_ (a' := ?_) ?_ ?_
       rotate_left
       ·
        show Act.put _ (some 29) _ = _
        simp only [ap_, s0_, s1_, i64_w]
        rfl
       refine one_ (i := 4) (N := some 32) (bl 10 31) rfl rfl (one_of HT_.out (by kernel_rfl)) (by decide) (fun K hK => ?_)
       refine goes_ Try.func15 (by kernel_rfl) rfl #[.slice Ao183 t163.length co183, .string a1_2] (by rfl) rfl rfl am_ ?_
       with_reducible refine (compress_Find.calls kj4 _ _ t163 a1_2 t166 t167 _ ?side1 ?side2 A17.out).mono ?_
       (case side1 => repeat (first | exact (Kd.R_reads' HO165.out).2.2 | (with_reducible refine Kd.C_alloc ?_ _) | (with_reducible refine Kd.C_drewN ?_ _) | (with_reducible refine Kd.C_drew ?_)))
       (case side2 => exact (Kd.R_reads' HO165.out).2.1)
       rintro e w184 ⟨rfl, hb⟩
       refine ⟨_, rfl, ?_⟩
       have n0_ := Aside0.mk (Kd.R_below (kr_ HO165) hb)
       have n1_ := bk_ BK159 hb
       have n2_ := Aside0.mk (below_step hb_ hb)
       clear HO165
       clear BK159
       clear HB
       have HO165 := n0_
       have BK159 := n1_
       have HB := n2_
       clear n0_ n1_ n2_
       (try clear hb)
       (try clear hb2)
       (try clear hk)
       (try clear hi)
       refine hK.out _ _ ⟨(blk_cell BK159.out 0).trans rfl, (blk_cell BK159.out 1).trans rfl, (blk_cell BK159.out 2).trans rfl, (blk_cell BK159.out 3).trans rfl, (blk_cell BK159.out 4).trans rfl, (blk_cell BK159.out 5).trans rfl, (blk_cell BK159.out 6).trans rfl⟩ (fun hHeld => ?_)
       clear hK K
       refine norm_ (a' := ?_) ?_ ?_
       rotate_left
       ·
        show Act.put _ (some 32) _ = _
        simp only [ap_, s0_, s1_, i64_w]
        rfl
       refine pu_ HT_ 5 27 (bl 10 63) ?_
       refine pu_ HT_ 6 33 (bl 10 127) ?_
       refine pu_ HT_ 7 34 (bl 10 255) ?_
       refine pu_ HT_ 8 5 (bl 10 511) ?_
       refine pu_ HT_ 9 6 (bl 10 1023) ?_
       refine done_ (done_of HT_.out (by kernel_rfl)) ?_
       have hcz185_0 := bc0 BK159
       have hcz185_1 := bc1 BK159
       have hcz185_2 := bc2 BK159
       have hcz185_3 := bc3 BK159
       have hcz185_4 := bc4 BK159
       have hcz185_5 := bc5 BK159
       have hcz185_6 := bc6 BK159
       have hfz185_0 := blk_frozen BK159.out 0
       have hfz185_1 := blk_frozen BK159.out 1
       have hfz185_2 := blk_frozen BK159.out 2
       have hfz185_3 := blk_frozen BK159.out 3
       have hfz185_4 := blk_frozen BK159.out 4
       have hfz185_5 := blk_frozen BK159.out 5
       have hfz185_6 := blk_frozen BK159.out 6
       try go_wp2_with (first | ((with_reducible refine gate_callee (f := 16) rfl ?_); refine goesL_ (some 39) rfl rfl Try.func16 (by kernel_rfl) rfl #[.slice A0 l0.length c0, .string a1_2] rfl am_ ?_; (with_reducible refine (hopmeshref14_Find.calls kj4 _ _ l0 a1_2 t168 t169 _ ?side1 ?side2 A18.out).mono ?_); (case side1 => repeat (first | exact (Kd.C_below HR0.out HB.out) | (with_reducible refine Kd.C_alloc ?_ _) | (with_reducible refine Kd.C_drewN ?_ _) | (with_reducible refine Kd.C_drew ?_))); (case side2 => exact HC0.out); rintro e w186 ⟨rfl, hb⟩; refine ⟨_, rfl, ?_⟩; have n0_ := Aside0.mk (Kd.R_below (kr_ HO165) hb); have n1_ := bk_ BK159 hb; have n2_ := Aside0.mk (below_step hb_ hb); clear HO165; clear BK159; clear HB; have HO165 := n0_; have BK159 := n1_; have HB := n2_; clear n0_ n1_ n2_; (try clear hb); (try clear hb2); (try clear hk); (try clear hi)))
       have n0_ := Aside0.mk (Kd.R_drew HO165.out)
       have n1_ := Aside0.mk (blk_drew BK159.out)
       have n2_ := Aside0.mk (below_drew1 HB.out)
       clear HO165
       clear BK159
       clear HB
       have HO165 := n0_
       have BK159 := n1_
       have HB := n2_
       clear n0_ n1_ n2_
       refine start_ (n := 9) (S := fun w' => w'.cell? ⟨gb159, 0, none⟩ = some (.int .i64 a1_0) ∧ w'.cell? ⟨gb159, 1, none⟩ = some (.int .i64 a1_1) ∧ w'.cell? ⟨gb159, 2, none⟩ = some (.string a1_2) ∧ w'.cell? ⟨gb159, 3, none⟩ = some (.string a1_3) ∧ w'.cell? ⟨gb159, 4, none⟩ = some (.int .i64 a1_4) ∧ w'.cell? ⟨gb159, 5, none⟩ = some (.int .i64 a1_5) ∧ w'.cell? ⟨gb159, 6, none⟩ = some (.int .i64 a1_6)) (ds := []) #[false, false, false, false, false, false, false, false, false] (by kernel_rfl) rfl rfl ⟨(blk_cell BK159.out 0).trans rfl, (blk_cell BK159.out 1).trans rfl, (blk_cell BK159.out 2).trans rfl, (blk_cell BK159.out 3).trans rfl, (blk_cell BK159.out 4).trans rfl, (blk_cell BK159.out 5).trans rfl, (blk_cell BK159.out 6).trans rfl⟩ (fun hHeld => ?_); refine with_tabW hopmeshlaw14_CompressWrites.tab7 hopmeshlaw14_CompressWrites.bits7 (fun HT_ HW_ => ?_)
       generalize w186.drew = w187 at HO165 BK159 HB hHeld ⊢
       refine pu_ HT_ 0 43 (bl 9 1) ?_
       refine tk_ HT_ HW_ hHeld 2 45 (bl 9 5) ?_
       refine one_ (i := 1) (N := some 44) (bl 9 7) rfl rfl (one_of HT_.out (by kernel_rfl)) (by decide) (fun K hK => ?_)
       refine goes_ Try.func14 (by kernel_rfl) rfl #[.slice A0 l0.length c0] (by rfl) rfl rfl am_ ?_
       with_reducible refine (api_Context.calls _ _ l0 t170 _ ?side1 ?side2 A19.out).mono ?_
       (case side1 => repeat (first | exact (Kd.C_below HR0.out HB.out) | (with_reducible refine Kd.C_alloc ?_ _) | (with_reducible refine Kd.C_drewN ?_ _) | (with_reducible refine Kd.C_drew ?_)))
       (case side2 => exact HC0.out)
       rintro e w188 ⟨v171, rfl, ho0, hb⟩
       refine ⟨_, rfl, ?_⟩
       have n0_ := Aside0.mk (Kd.R_elder' (kr_ HO165) (Kd.R_base ho0) hb)
       have n1_ := Aside0.mk (Kd.R_lower (Kd.R_new' ho0 (Kd.R_lt (kr_ HO165))) (below_size hb_))
       have n2_ := bk_ BK159 hb
       have n3_ := Aside0.mk (below_step hb_ hb)
       clear HO165
       clear BK159
       clear HB
       have HO165 := n0_
       have HO172 := n1_
       have BK159 := n2_
       have HB := n3_
       clear n0_ n1_ n2_ n3_
       (try clear hb)
       (try clear hb2)
       (try clear hk)
       (try clear hi)
       (try clear ho0)
       obtain ⟨Ao189, co189, eo189⟩ := Kd.R_slice HO172.out
       (first | subst eo189 | (injection eo189 with f1_ f2_ f3_; have f4_ := f1_.symm; have f5_ := f3_.symm; clear f1_ f2_ f3_; subst f4_; subst f5_))
       refine hK.out _ _ ⟨(blk_cell BK159.out 0).trans rfl, (blk_cell BK159.out 1).trans rfl, (blk_cell BK159.out 2).trans rfl, (blk_cell BK159.out 3).trans rfl, (blk_cell BK159.out 4).trans rfl, (blk_cell BK159.out 5).trans rfl, (blk_cell BK159.out 6).trans rfl⟩ (fun hHeld => ?_)
       clear hK K
       refine norm_ (a' := ?_) ?_ ?_
       rotate_left
       ·
        show Act.put _ (some 44) _ = _
        simp only [ap_, s0_, s1_, i64_w]
        rfl
       refine one_ (i := 3) (N := some 46) (bl 9 15) rfl rfl (one_of HT_.out (by kernel_rfl)) (by decide) (fun K hK => ?_)
       refine goes_ Try.func17 (by kernel_rfl) rfl #[.slice Ao189 t170.length co189, .agg #[.int .i64 a1_0, .int .i64 a1_1, .string a1_2, .string a1_3, .int .i64 a1_4, .int .i64 a1_5, .int .i64 a1_6]] (by rfl) rfl rfl am_ ?_
       with_reducible refine (compress_Compress.calls _ _ t170 a1_0 a1_1 a1_2 a1_3 a1_4 a1_5 a1_6 t173 t174 _ ?side1 ?side2 A20.out).mono ?_
       (case side1 => repeat (first | exact (Kd.R_reads' HO172.out).2.2 | (with_reducible refine Kd.C_alloc ?_ _) | (with_reducible refine Kd.C_drewN ?_ _) | (with_reducible refine Kd.C_drew ?_)))
       (case side2 => exact (Kd.R_reads' HO172.out).2.1)
       rintro e w190 ⟨rfl, hb⟩
       refine ⟨_, rfl, ?_⟩
       have n0_ := Aside0.mk (Kd.R_below (kr_ HO165) hb)
       have n1_ := Aside0.mk (Kd.R_below (kr_ HO172) hb)
       have n2_ := bk_ BK159 hb
       have n3_ := Aside0.mk (below_step hb_ hb)
       clear HO165
       clear HO172
       clear BK159
       clear HB
       have HO165 := n0_
       have HO172 := n1_
       have BK159 := n2_
       have HB := n3_
       clear n0_ n1_ n2_ n3_
       (try clear hb)
       (try clear hb2)
       (try clear hk)
       (try clear hi)
       refine hK.out _ _ ⟨(blk_cell BK159.out 0).trans rfl, (blk_cell BK159.out 1).trans rfl, (blk_cell BK159.out 2).trans rfl, (blk_cell BK159.out 3).trans rfl, (blk_cell BK159.out 4).trans rfl, (blk_cell BK159.out 5).trans rfl, (blk_cell BK159.out 6).trans rfl⟩ (fun hHeld => ?_)
       clear hK K
       refine norm_ (a' := ?_) ?_ ?_
       rotate_left
       ·
        show Act.put _ (some 46) _ = _
        simp only [ap_, s0_, s1_, i64_w]
        rfl
       refine pu_ HT_ 4 42 (bl 9 31) ?_
       refine pu_ HT_ 5 47 (bl 9 63) ?_
       refine pu_ HT_ 6 48 (bl 9 127) ?_
       refine pu_ HT_ 7 9 (bl 9 255) ?_
       refine pu_ HT_ 8 10 (bl 9 511) ?_
       refine done_ (done_of HT_.out (by kernel_rfl)) ?_
       have hcz191_0 := bc0 BK159
       have hcz191_1 := bc1 BK159
       have hcz191_2 := bc2 BK159
       have hcz191_3 := bc3 BK159
       have hcz191_4 := bc4 BK159
       have hcz191_5 := bc5 BK159
       have hcz191_6 := bc6 BK159
       have hfz191_0 := blk_frozen BK159.out 0
       have hfz191_1 := blk_frozen BK159.out 1
       have hfz191_2 := blk_frozen BK159.out 2
       have hfz191_3 := blk_frozen BK159.out 3
       have hfz191_4 := blk_frozen BK159.out 4
       have hfz191_5 := blk_frozen BK159.out 5
       have hfz191_6 := blk_frozen BK159.out 6
       try go_wp2_with (first | ((with_reducible refine gate_callee (f := 18) rfl ?_); refine goesL_ (some 52) rfl rfl Try.func18 (by kernel_rfl) rfl #[.slice A0 l0.length c0, .agg #[.int .i64 a1_0, .int .i64 a1_1, .string a1_2, .string a1_3, .int .i64 a1_4, .int .i64 a1_5, .int .i64 a1_6]] rfl am_ ?_; (with_reducible refine (hopmeshref14_Compress.calls _ _ l0 a1_0 a1_1 a1_2 a1_3 a1_4 a1_5 a1_6 t175 t176 _ ?side1 ?side2 A21.out).mono ?_); (case side1 => repeat (first | exact (Kd.C_below HR0.out HB.out) | (with_reducible refine Kd.C_alloc ?_ _) | (with_reducible refine Kd.C_drewN ?_ _) | (with_reducible refine Kd.C_drew ?_))); (case side2 => exact HC0.out); rintro e w192 ⟨rfl, hb⟩; refine ⟨_, rfl, ?_⟩; have n0_ := Aside0.mk (Kd.R_below (kr_ HO165) hb); have n1_ := Aside0.mk (Kd.R_below (kr_ HO172) hb); have n2_ := bk_ BK159 hb; have n3_ := Aside0.mk (below_step hb_ hb); clear HO165; clear HO172; clear BK159; clear HB; have HO165 := n0_; have HO172 := n1_; have BK159 := n2_; have HB := n3_; clear n0_ n1_ n2_ n3_; (try clear hb); (try clear hb2); (try clear hk); (try clear hi)))
       have n0_ := Aside0.mk (Kd.R_drew HO165.out)
       have n1_ := Aside0.mk (Kd.R_drew HO172.out)
       have n2_ := Aside0.mk (blk_drew BK159.out)
       have n3_ := Aside0.mk (below_drew1 HB.out)
       clear HO165
       clear HO172
       clear BK159
       clear HB
       have HO165 := n0_
       have HO172 := n1_
       have BK159 := n2_
       have HB := n3_
       clear n0_ n1_ n2_ n3_
       refine start_ (n := 9) (S := fun w' => w'.cell? ⟨gb159, 0, none⟩ = some (.int .i64 a1_0) ∧ w'.cell? ⟨gb159, 1, none⟩ = some (.int .i64 a1_1) ∧ w'.cell? ⟨gb159, 2, none⟩ = some (.string a1_2) ∧ w'.cell? ⟨gb159, 3, none⟩ = some (.string a1_3) ∧ w'.cell? ⟨gb159, 4, none⟩ = some (.int .i64 a1_4) ∧ w'.cell? ⟨gb159, 5, none⟩ = some (.int .i64 a1_5) ∧ w'.cell? ⟨gb159, 6, none⟩ = some (.int .i64 a1_6)) (ds := []) #[false, false, false, false, false, false, false, false, false] (by kernel_rfl) rfl rfl ⟨(blk_cell BK159.out 0).trans rfl, (blk_cell BK159.out 1).trans rfl, (blk_cell BK159.out 2).trans rfl, (blk_cell BK159.out 3).trans rfl, (blk_cell BK159.out 4).trans rfl, (blk_cell BK159.out 5).trans rfl, (blk_cell BK159.out 6).trans rfl⟩ (fun hHeld => ?_); refine with_tabW hopmeshlaw14_CompressWrites.tab9 hopmeshlaw14_CompressWrites.bits9 (fun HT_ HW_ => ?_)
       generalize w192.drew = w193 at HO165 HO172 BK159 HB hHeld ⊢
       refine pu_ HT_ 0 56 (bl 9 1) ?_
       refine tk_ HT_ HW_ hHeld 2 58 (bl 9 5) ?_
       refine one_ (i := 1) (N := some 57) (bl 9 7) rfl rfl (one_of HT_.out (by kernel_rfl)) (by decide) (fun K hK => ?_)
       refine goes_ Try.func14 (by kernel_rfl) rfl #[.slice A0 l0.length c0] (by rfl) rfl rfl am_ ?_
       with_reducible refine (api_Context.calls _ _ l0 t177 _ ?side1 ?side2 A22.out).mono ?_
       (case side1 => repeat (first | exact (Kd.C_below HR0.out HB.out) | (with_reducible refine Kd.C_alloc ?_ _) | (with_reducible refine Kd.C_drewN ?_ _) | (with_reducible refine Kd.C_drew ?_)))
       (case side2 => exact HC0.out)
       rintro e w194 ⟨v178, rfl, ho0, hb⟩
       refine ⟨_, rfl, ?_⟩
       have n0_ := Aside0.mk (Kd.R_elder' (kr_ HO165) (Kd.R_base ho0) hb)
       have n1_ := Aside0.mk (Kd.R_elder' (kr_ HO172) (Kd.R_base ho0) hb)
       have n2_ := Aside0.mk (Kd.R_lower (Kd.R_new' (Kd.R_new' ho0 (Kd.R_lt (kr_ HO165))) (Kd.R_lt (kr_ HO172))) (below_size hb_))
       have n3_ := bk_ BK159 hb
       have n4_ := Aside0.mk (below_step hb_ hb)
       clear HO165
       clear HO172
       clear BK159
       clear HB
       have HO165 := n0_
       have HO172 := n1_
       have HO179 := n2_
       have BK159 := n3_
       have HB := n4_
       clear n0_ n1_ n2_ n3_ n4_
       (try clear hb)
       (try clear hb2)
       (try clear hk)
       (try clear hi)
       (try clear ho0)
       obtain ⟨Ao195, co195, eo195⟩ := Kd.R_slice HO179.out
       (first | subst eo195 | (injection eo195 with f1_ f2_ f3_; have f4_ := f1_.symm; have f5_ := f3_.symm; clear f1_ f2_ f3_; subst f4_; subst f5_))
       refine hK.out _ _ ⟨(blk_cell BK159.out 0).trans rfl, (blk_cell BK159.out 1).trans rfl, (blk_cell BK159.out 2).trans rfl, (blk_cell BK159.out 3).trans rfl, (blk_cell BK159.out 4).trans rfl, (blk_cell BK159.out 5).trans rfl, (blk_cell BK159.out 6).trans rfl⟩ (fun hHeld => ?_)
       clear hK K
       refine norm_ (a' := ?_) ?_ ?_
       rotate_left
       ·
        show Act.put _ (some 57) _ = _
        simp only [ap_, s0_, s1_, i64_w]
        rfl
       refine one_ (i := 3) (N := some 59) (bl 9 15) rfl rfl (one_of HT_.out (by kernel_rfl)) (by decide) (fun K hK => ?_)
       refine goes_ Try.func13 (by kernel_rfl) rfl #[.slice Ao195 t177.length co195, .agg #[.int .i64 a1_0, .int .i64 a1_1, .string a1_2, .string a1_3, .int .i64 a1_4, .int .i64 a1_5, .int .i64 a1_6]] (by rfl) rfl rfl am_ ?_
       with_reducible refine (compress_Bits.calls _ _ t177 a1_0 a1_1 a1_2 a1_3 a1_4 a1_5 a1_6 t180 t181 _ ?side1 ?side2 A23.out).mono ?_
       (case side1 => repeat (first | exact (Kd.R_reads' HO179.out).2.2 | (with_reducible refine Kd.C_alloc ?_ _) | (with_reducible refine Kd.C_drewN ?_ _) | (with_reducible refine Kd.C_drew ?_)))
       (case side2 => exact (Kd.R_reads' HO179.out).2.1)
       rintro e w196 ⟨rfl, hb⟩
       refine ⟨_, rfl, ?_⟩
       have n0_ := Aside0.mk (Kd.R_below (kr_ HO165) hb)
       have n1_ := Aside0.mk (Kd.R_below (kr_ HO172) hb)
       have n2_ := Aside0.mk (Kd.R_below (kr_ HO179) hb)
       have n3_ := bk_ BK159 hb
       have n4_ := Aside0.mk (below_step hb_ hb)
       clear HO165
       clear HO172
       clear HO179
       clear BK159
       clear HB
       have HO165 := n0_
       have HO172 := n1_
       have HO179 := n2_
       have BK159 := n3_
       have HB := n4_
       clear n0_ n1_ n2_ n3_ n4_
       (try clear hb)
       (try clear hb2)
       (try clear hk)
       (try clear hi)
       refine hK.out _ _ ⟨(blk_cell BK159.out 0).trans rfl, (blk_cell BK159.out 1).trans rfl, (blk_cell BK159.out 2).trans rfl, (blk_cell BK159.out 3).trans rfl, (blk_cell BK159.out 4).trans rfl, (blk_cell BK159.out 5).trans rfl, (blk_cell BK159.out 6).trans rfl⟩ (fun hHeld => ?_)
       clear hK K
       refine norm_ (a' := ?_) ?_ ?_
       rotate_left
       ·
        show Act.put _ (some 59) _ = _
        simp only [ap_, s0_, s1_, i64_w]
        rfl
       refine pu_ HT_ 4 55 (bl 9 31) ?_
       refine pu_ HT_ 5 60 (bl 9 63) ?_
       refine pu_ HT_ 6 61 (bl 9 127) ?_
       refine pu_ HT_ 7 13 (bl 9 255) ?_
       refine pu_ HT_ 8 14 (bl 9 511) ?_
       refine done_ (done_of HT_.out (by kernel_rfl)) ?_
       have hcz197_0 := bc0 BK159
       have hcz197_1 := bc1 BK159
       have hcz197_2 := bc2 BK159
       have hcz197_3 := bc3 BK159
       have hcz197_4 := bc4 BK159
       have hcz197_5 := bc5 BK159
       have hcz197_6 := bc6 BK159
       have hfz197_0 := blk_frozen BK159.out 0
       have hfz197_1 := blk_frozen BK159.out 1
       have hfz197_2 := blk_frozen BK159.out 2
       have hfz197_3 := blk_frozen BK159.out 3
       have hfz197_4 := blk_frozen BK159.out 4
       have hfz197_5 := blk_frozen BK159.out 5
       have hfz197_6 := blk_frozen BK159.out 6
       try go_wp2_with (first | ((with_reducible refine gate_callee (f := 19) rfl ?_); refine goesL_ (some 65) rfl rfl Try.func19 (by kernel_rfl) rfl #[.slice A0 l0.length c0, .agg #[.int .i64 a1_0, .int .i64 a1_1, .string a1_2, .string a1_3, .int .i64 a1_4, .int .i64 a1_5, .int .i64 a1_6]] rfl am_ ?_; (with_reducible refine (hopmeshref14_Bits.calls _ _ l0 a1_0 a1_1 a1_2 a1_3 a1_4 a1_5 a1_6 t182 t183 _ ?side1 ?side2 A24.out).mono ?_); (case side1 => repeat (first | exact (Kd.C_below HR0.out HB.out) | (with_reducible refine Kd.C_alloc ?_ _) | (with_reducible refine Kd.C_drewN ?_ _) | (with_reducible refine Kd.C_drew ?_))); (case side2 => exact HC0.out); rintro e w198 ⟨rfl, hb⟩; refine ⟨_, rfl, ?_⟩; have n0_ := Aside0.mk (Kd.R_below (kr_ HO165) hb); have n1_ := Aside0.mk (Kd.R_below (kr_ HO172) hb); have n2_ := Aside0.mk (Kd.R_below (kr_ HO179) hb); have n3_ := bk_ BK159 hb; have n4_ := Aside0.mk (below_step hb_ hb); clear HO165; clear HO172; clear HO179; clear BK159; clear HB; have HO165 := n0_; have HO172 := n1_; have HO179 := n2_; have BK159 := n3_; have HB := n4_; clear n0_ n1_ n2_ n3_ n4_; (try clear hb); (try clear hb2); (try clear hk); (try clear hi)))
       have n0_ := Aside0.mk (Kd.R_drew HO165.out)
       have n1_ := Aside0.mk (Kd.R_drew HO172.out)
       have n2_ := Aside0.mk (Kd.R_drew HO179.out)
       have n3_ := Aside0.mk (blk_drew BK159.out)
       have n4_ := Aside0.mk (below_drew1 HB.out)
       clear HO165
       clear HO172
       clear HO179
       clear BK159
       clear HB
       have HO165 := n0_
       have HO172 := n1_
       have HO179 := n2_
       have BK159 := n3_
       have HB := n4_
       clear n0_ n1_ n2_ n3_ n4_
       refine start_ (n := 44) (S := fun w' => w'.cell? ⟨gb159, 0, none⟩ = some (.int .i64 a1_0) ∧ w'.cell? ⟨gb159, 1, none⟩ = some (.int .i64 a1_1) ∧ w'.cell? ⟨gb159, 2, none⟩ = some (.string a1_2) ∧ w'.cell? ⟨gb159, 3, none⟩ = some (.string a1_3) ∧ w'.cell? ⟨gb159, 4, none⟩ = some (.int .i64 a1_4) ∧ w'.cell? ⟨gb159, 5, none⟩ = some (.int .i64 a1_5) ∧ w'.cell? ⟨gb159, 6, none⟩ = some (.int .i64 a1_6)) (ds := []) #[false, false, false, false, false, false, false, false, false, false, false, false, false, false, false, false, false, false, false, false, false, false, false, false, false, false, false, false, false, false, false, false, false, false, false, false, false, false, false, false, false, false, false, false] (by kernel_rfl) rfl rfl ⟨(blk_cell BK159.out 0).trans rfl, (blk_cell BK159.out 1).trans rfl, (blk_cell BK159.out 2).trans rfl, (blk_cell BK159.out 3).trans rfl, (blk_cell BK159.out 4).trans rfl, (blk_cell BK159.out 5).trans rfl, (blk_cell BK159.out 6).trans rfl⟩ (fun hHeld => ?_); refine with_tabW hopmeshlaw14_CompressWrites.tab11 hopmeshlaw14_CompressWrites.bits11 (fun HT_ HW_ => ?_)
       generalize w198.drew = w199 at HO165 HO172 HO179 BK159 HB hHeld ⊢
       refine tk_ HT_ HW_ hHeld 0 68 (bl 44 1) ?_
       refine tk_ HT_ HW_ hHeld 2 70 (bl 44 5) ?_
       refine one_ (i := 1) (N := some 69) (bl 44 7) rfl rfl (one_of HT_.out (by kernel_rfl)) (by decide) (fun K hK => ?_)
       refine goes_ Try.func20 (by kernel_rfl) rfl #[.agg #[.int .i64 a1_0, .int .i64 a1_1, .string a1_2, .string a1_3, .int .i64 a1_4, .int .i64 a1_5, .int .i64 a1_6]] (by rfl) rfl rfl am_ ?_
       with_reducible refine (compress_Check.calls kj4 a1_0 a1_1 a1_2 a1_3 a1_4 a1_5 a1_6 t184 _ A25.out).mono ?_
       rintro e w200 ⟨rfl, hb⟩
       refine ⟨_, rfl, ?_⟩
       have n0_ := Aside0.mk (Kd.R_below (kr_ HO165) hb)
       have n1_ := Aside0.mk (Kd.R_below (kr_ HO172) hb)
       have n2_ := Aside0.mk (Kd.R_below (kr_ HO179) hb)
       have n3_ := bk_ BK159 hb
       have n4_ := Aside0.mk (below_step hb_ hb)
       clear HO165
       clear HO172
       clear HO179
       clear BK159
       clear HB
       have HO165 := n0_
       have HO172 := n1_
       have HO179 := n2_
       have BK159 := n3_
       have HB := n4_
       clear n0_ n1_ n2_ n3_ n4_
       (try clear hb)
       (try clear hb2)
       (try clear hk)
       (try clear hi)
       refine hK.out _ _ ⟨(blk_cell BK159.out 0).trans rfl, (blk_cell BK159.out 1).trans rfl, (blk_cell BK159.out 2).trans rfl, (blk_cell BK159.out 3).trans rfl, (blk_cell BK159.out 4).trans rfl, (blk_cell BK159.out 5).trans rfl, (blk_cell BK159.out 6).trans rfl⟩ (fun hHeld => ?_)
       clear hK K
       refine norm_ (a' := ?_) ?_ ?_
       rotate_left
       ·
        show Act.put _ (some 69) _ = _
        simp only [ap_, s0_, s1_, i64_w]
        rfl
       refine one_ (i := 3) (N := some 71) (bl 44 15) rfl rfl (one_of HT_.out (by kernel_rfl)) (by decide) (fun K hK => ?_)
       refine goes_ Try.func21 (by kernel_rfl) rfl #[.agg #[.int .i64 a1_0, .int .i64 a1_1, .string a1_2, .string a1_3, .int .i64 a1_4, .int .i64 a1_5, .int .i64 a1_6]] (by rfl) rfl rfl am_ ?_
       with_reducible refine (hopmeshref14_Check.calls kj4 a1_0 a1_1 a1_2 a1_3 a1_4 a1_5 a1_6 t185 _ A26.out).mono ?_
       rintro e w201 ⟨rfl, hb⟩
       refine ⟨_, rfl, ?_⟩
       have n0_ := Aside0.mk (Kd.R_below (kr_ HO165) hb)
       have n1_ := Aside0.mk (Kd.R_below (kr_ HO172) hb)
       have n2_ := Aside0.mk (Kd.R_below (kr_ HO179) hb)
       have n3_ := bk_ BK159 hb
       have n4_ := Aside0.mk (below_step hb_ hb)
       clear HO165
       clear HO172
       clear HO179
       clear BK159
       clear HB
       have HO165 := n0_
       have HO172 := n1_
       have HO179 := n2_
       have BK159 := n3_
       have HB := n4_
       clear n0_ n1_ n2_ n3_ n4_
       (try clear hb)
       (try clear hb2)
       (try clear hk)
       (try clear hi)
       refine hK.out _ _ ⟨(blk_cell BK159.out 0).trans rfl, (blk_cell BK159.out 1).trans rfl, (blk_cell BK159.out 2).trans rfl, (blk_cell BK159.out 3).trans rfl, (blk_cell BK159.out 4).trans rfl, (blk_cell BK159.out 5).trans rfl, (blk_cell BK159.out 6).trans rfl⟩ (fun hHeld => ?_)
       clear hK K
       refine norm_ (a' := ?_) ?_ ?_
       rotate_left
       ·
        show Act.put _ (some 71) _ = _
        simp only [ap_, s0_, s1_, i64_w]
        rfl
       refine pu_ HT_ 4 72 (bl 44 31) ?_
       refine pu_ HT_ 5 73 (bl 44 63) ?_
       refine pu_ HT_ 6 74 (bl 44 127) ?_
       refine pu_ HT_ 9 77 (bl 44 639) ?_
       refine one_ (i := 7) (N := some 75) (bl 44 767) rfl rfl (one_of HT_.out (by kernel_rfl)) (by decide) (fun K hK => ?_)
       refine goes_ Try.func14 (by kernel_rfl) rfl #[.slice A0 l0.length c0] (by rfl) rfl rfl am_ ?_
       with_reducible refine (api_Context.calls _ _ l0 t186 _ ?side1 ?side2 A28.out).mono ?_
       (case side1 => repeat (first | exact (Kd.C_below HR0.out HB.out) | (with_reducible refine Kd.C_alloc ?_ _) | (with_reducible refine Kd.C_drewN ?_ _) | (with_reducible refine Kd.C_drew ?_)))
       (case side2 => exact HC0.out)
       rintro e w202 ⟨v187, rfl, ho0, hb⟩
       refine ⟨_, rfl, ?_⟩
       have n0_ := Aside0.mk (Kd.R_elder' (kr_ HO165) (Kd.R_base ho0) hb)
       have n1_ := Aside0.mk (Kd.R_elder' (kr_ HO172) (Kd.R_base ho0) hb)
       have n2_ := Aside0.mk (Kd.R_elder' (kr_ HO179) (Kd.R_base ho0) hb)
       have n3_ := Aside0.mk (Kd.R_lower (Kd.R_new' (Kd.R_new' (Kd.R_new' ho0 (Kd.R_lt (kr_ HO165))) (Kd.R_lt (kr_ HO172))) (Kd.R_lt (kr_ HO179))) (below_size hb_))
       have n4_ := bk_ BK159 hb
       have n5_ := Aside0.mk (below_step hb_ hb)
       clear HO165
       clear HO172
       clear HO179
       clear BK159
       clear HB
       have HO165 := n0_
       have HO172 := n1_
       have HO179 := n2_
       have HO188 := n3_
       have BK159 := n4_
       have HB := n5_
       clear n0_ n1_ n2_ n3_ n4_ n5_
       (try clear hb)
       (try clear hb2)
       (try clear hk)
       (try clear hi)
       (try clear ho0)
       obtain ⟨Ao203, co203, eo203⟩ := Kd.R_slice HO188.out
       (first | subst eo203 | (injection eo203 with f1_ f2_ f3_; have f4_ := f1_.symm; have f5_ := f3_.symm; clear f1_ f2_ f3_; subst f4_; subst f5_))
       refine hK.out _ _ ⟨(blk_cell BK159.out 0).trans rfl, (blk_cell BK159.out 1).trans rfl, (blk_cell BK159.out 2).trans rfl, (blk_cell BK159.out 3).trans rfl, (blk_cell BK159.out 4).trans rfl, (blk_cell BK159.out 5).trans rfl, (blk_cell BK159.out 6).trans rfl⟩ (fun hHeld => ?_)
       clear hK K
       refine norm_ (a' := ?_) ?_ ?_
       rotate_left
       ·
        show Act.put _ (some 75) _ = _
        simp only [ap_, s0_, s1_, i64_w]
        rfl
       refine one_ (i := 8) (N := some 76) (bl 44 1023) rfl rfl (one_of HT_.out (by kernel_rfl)) (by decide) (fun K hK => ?_)
       refine goes_ Try.func22 (by kernel_rfl) rfl #[.slice Ao203 t186.length co203] (by rfl) rfl rfl am_ ?_
       with_reducible refine (compress_Contexts.calls _ _ t186 t189 _ ?side1 ?side2 A29.out).mono ?_
       (case side1 => repeat (first | exact (Kd.R_reads' HO188.out).2.2 | (with_reducible refine Kd.C_alloc ?_ _) | (with_reducible refine Kd.C_drewN ?_ _) | (with_reducible refine Kd.C_drew ?_)))
       (case side2 => exact (Kd.R_reads' HO188.out).2.1)
       rintro e w204 ⟨rfl, hb⟩
       refine ⟨_, rfl, ?_⟩
       have n0_ := Aside0.mk (Kd.R_below (kr_ HO165) hb)
       have n1_ := Aside0.mk (Kd.R_below (kr_ HO172) hb)
       have n2_ := Aside0.mk (Kd.R_below (kr_ HO179) hb)
       have n3_ := Aside0.mk (Kd.R_below (kr_ HO188) hb)
       have n4_ := bk_ BK159 hb
       have n5_ := Aside0.mk (below_step hb_ hb)
       clear HO165
       clear HO172
       clear HO179
       clear HO188
       clear BK159
       clear HB
       have HO165 := n0_
       have HO172 := n1_
       have HO179 := n2_
       have HO188 := n3_
       have BK159 := n4_
       have HB := n5_
       clear n0_ n1_ n2_ n3_ n4_ n5_
       (try clear hb)
       (try clear hb2)
       (try clear hk)
       (try clear hi)
       refine hK.out _ _ ⟨(blk_cell BK159.out 0).trans rfl, (blk_cell BK159.out 1).trans rfl, (blk_cell BK159.out 2).trans rfl, (blk_cell BK159.out 3).trans rfl, (blk_cell BK159.out 4).trans rfl, (blk_cell BK159.out 5).trans rfl, (blk_cell BK159.out 6).trans rfl⟩ (fun hHeld => ?_)
       clear hK K
       refine norm_ (a' := ?_) ?_ ?_
       rotate_left
       ·
        show Act.put _ (some 76) _ = _
        simp only [ap_, s0_, s1_, i64_w]
        rfl
       refine one_ (i := 10) (N := some 78) (bl 44 2047) rfl rfl (one_of HT_.out (by kernel_rfl)) (by decide) (fun K hK => ?_)
       refine goes_ Try.func23 (by kernel_rfl) rfl #[.slice A0 l0.length c0] (by rfl) rfl rfl am_ ?_
       with_reducible refine (hopmeshref14_Contexts.calls kj4 _ _ l0 t190 _ ?side1 ?side2 A30.out).mono ?_
       (case side1 => repeat (first | exact (Kd.C_below HR0.out HB.out) | (with_reducible refine Kd.C_alloc ?_ _) | (with_reducible refine Kd.C_drewN ?_ _) | (with_reducible refine Kd.C_drew ?_)))
       (case side2 => exact HC0.out)
       rintro e w' ⟨rfl, ⟨nd, rfl⟩⟩
       refine ⟨_, rfl, ?_⟩
       refine hK.out _ _ ⟨(blk_cell BK159.out 0).trans rfl, (blk_cell BK159.out 1).trans rfl, (blk_cell BK159.out 2).trans rfl, (blk_cell BK159.out 3).trans rfl, (blk_cell BK159.out 4).trans rfl, (blk_cell BK159.out 5).trans rfl, (blk_cell BK159.out 6).trans rfl⟩ (fun hHeld => ?_)
       clear hK K
       refine norm_ (a' := ?_) ?_ ?_
       rotate_left
       ·
        show Act.put _ (some 78) _ = _
        simp only [ap_, s0_, s1_, i64_w]
        rfl
       refine pu_ HT_ 11 79 (bl 44 4095) ?_
       refine pu_ HT_ 12 80 (bl 44 8191) ?_
       refine pu_ HT_ 13 81 (bl 44 16383) ?_
       refine of_ HT_ 14 82 (bl 44 32767) ?_
       refine of_ HT_ 15 83 (bl 44 65535) ?_
       refine of_ HT_ 16 84 (bl 44 131071) ?_
       refine pu_ HT_ 17 85 (bl 44 262143) ?_
       refine pu_ HT_ 18 86 (bl 44 524287) ?_
       refine of_ HT_ 19 87 (bl 44 1048575) ?_
       refine of_ HT_ 20 88 (bl 44 2097151) ?_
       refine of_ HT_ 21 89 (bl 44 4194303) ?_
       refine pu_ HT_ 22 90 (bl 44 8388607) ?_
       refine pu_ HT_ 23 91 (bl 44 16777215) ?_
       refine of_ HT_ 24 92 (bl 44 33554431) ?_
       refine of_ HT_ 25 93 (bl 44 67108863) ?_
       refine of_ HT_ 26 94 (bl 44 134217727) ?_
       refine pu_ HT_ 27 95 (bl 44 268435455) ?_
       refine pu_ HT_ 28 96 (bl 44 536870911) ?_
       refine of_ HT_ 29 97 (bl 44 1073741823) ?_
       refine of_ HT_ 30 98 (bl 44 2147483647) ?_
       refine of_ HT_ 31 99 (bl 44 4294967295) ?_
       refine pu_ HT_ 32 100 (bl 44 8589934591) ?_
       refine pu_ HT_ 33 101 (bl 44 17179869183) ?_
       refine of_ HT_ 34 102 (bl 44 34359738367) ?_
       refine of_ HT_ 35 103 (bl 44 68719476735) ?_
       refine of_ HT_ 36 104 (bl 44 137438953471) ?_
       refine pu_ HT_ 37 105 (bl 44 274877906943) ?_
       refine pu_ HT_ 38 106 (bl 44 549755813887) ?_
       refine of_ HT_ 39 107 (bl 44 1099511627775) ?_
       refine of_ HT_ 40 108 (bl 44 2199023255551) ?_
       refine of_ HT_ 41 109 (bl 44 4398046511103) ?_
       refine pu_ HT_ 42 110 (bl 44 8796093022207) ?_
       refine pu_ HT_ 43 4 (bl 44 17592186044415) ?_
       refine done_ (done_of HT_.out (by kernel_rfl)) ?_
       try go_wp2
       go_ret
       exact ⟨er_, hb_⟩
     ·
      rw [if_neg c27] at H
      have c27b0 : (t184 == t185) = false := beq_eq_false_iff_ne.mpr c27
      have c27b1 : (t184 != t185) = true := bne_iff_ne.mpr c27
      obtain rfl := Option.some.inj H
      try go_wp2
      have n0_ := Aside0.mk (blk_drew BK159.out)
      have n1_ := Aside0.mk (below_drew1 HB.out)
      clear BK159
      clear HB
      have BK159 := n0_
      have HB := n1_
      clear n0_ n1_
      refine start_ (n := 10) (S := fun w' => w'.cell? ⟨gb159, 0, none⟩ = some (.int .i64 a1_0) ∧ w'.cell? ⟨gb159, 1, none⟩ = some (.int .i64 a1_1) ∧ w'.cell? ⟨gb159, 2, none⟩ = some (.string a1_2) ∧ w'.cell? ⟨gb159, 3, none⟩ = some (.string a1_3) ∧ w'.cell? ⟨gb159, 4, none⟩ = some (.int .i64 a1_4) ∧ w'.cell? ⟨gb159, 5, none⟩ = some (.int .i64 a1_5) ∧ w'.cell? ⟨gb159, 6, none⟩ = some (.int .i64 a1_6)) (ds := []) #[false, false, false, false, false, false, false, false, false, false] (by kernel_rfl) rfl rfl ⟨(blk_cell BK159.out 0).trans rfl, (blk_cell BK159.out 1).trans rfl, (blk_cell BK159.out 2).trans rfl, (blk_cell BK159.out 3).trans rfl, (blk_cell BK159.out 4).trans rfl, (blk_cell BK159.out 5).trans rfl, (blk_cell BK159.out 6).trans rfl⟩ (fun hHeld => ?_); refine with_tabW hopmeshlaw14_CompressWrites.tab5 hopmeshlaw14_CompressWrites.bits5 (fun HT_ HW_ => ?_)
      generalize wc.drew = w205 at BK159 HB hHeld ⊢
      refine pu_ HT_ 0 28 (bl 10 1) ?_
      refine pu_ HT_ 2 30 (bl 10 5) ?_
      refine tk_ HT_ HW_ hHeld 3 31 (bl 10 13) ?_
      refine one_ (i := 1) (N := some 29) (bl 10 15) rfl rfl (one_of HT_.out (by kernel_rfl)) (by decide) (fun K hK => ?_)
      refine goes_ Try.func14 (by kernel_rfl) rfl #[.slice A0 l0.length c0] (by rfl) rfl rfl am_ ?_
      with_reducible refine (api_Context.calls _ _ l0 t163 _ ?side1 ?side2 A16.out).mono ?_
      (case side1 => repeat (first | exact (Kd.C_below HR0.out HB.out) | (with_reducible refine Kd.C_alloc ?_ _) | (with_reducible refine Kd.C_drewN ?_ _) | (with_reducible refine Kd.C_drew ?_)))
      (case side2 => exact HC0.out)
      rintro e w206 ⟨v164, rfl, ho0, hb⟩
      refine ⟨_, rfl, ?_⟩
      have n0_ := Aside0.mk (Kd.R_lower ho0 (below_size hb_))
      have n1_ := bk_ BK159 hb
      have n2_ := Aside0.mk (below_step hb_ hb)
      clear BK159
      clear HB
      have HO165 := n0_
      have BK159 := n1_
      have HB := n2_
      clear n0_ n1_ n2_
      (try clear hb)
      (try clear hb2)
      (try clear hk)
      (try clear hi)
      (try clear ho0)
      obtain ⟨Ao207, co207, eo207⟩ := Kd.R_slice HO165.out
      (first | subst eo207 | (injection eo207 with f1_ f2_ f3_; have f4_ := f1_.symm; have f5_ := f3_.symm; clear f1_ f2_ f3_; subst f4_; subst f5_))
      refine hK.out _ _ ⟨(blk_cell BK159.out 0).trans rfl, (blk_cell BK159.out 1).trans rfl, (blk_cell BK159.out 2).trans rfl, (blk_cell BK159.out 3).trans rfl, (blk_cell BK159.out 4).trans rfl, (blk_cell BK159.out 5).trans rfl, (blk_cell BK159.out 6).trans rfl⟩ (fun hHeld => ?_)
      clear hK K
      refine norm_ (a' := ?_) ?_ ?_
      rotate_left
      ·
       show Act.put _ (some 29) _ = _
       simp only [ap_, s0_, s1_, i64_w]
       rfl
      refine one_ (i := 4) (N := some 32) (bl 10 31) rfl rfl (one_of HT_.out (by kernel_rfl)) (by decide) (fun K hK => ?_)
      refine goes_ Try.func15 (by kernel_rfl) rfl #[.slice Ao207 t163.length co207, .string a1_2] (by rfl) rfl rfl am_ ?_
      with_reducible refine (compress_Find.calls kj4 _ _ t163 a1_2 t166 t167 _ ?side1 ?side2 A17.out).mono ?_
      (case side1 => repeat (first | exact (Kd.R_reads' HO165.out).2.2 | (with_reducible refine Kd.C_alloc ?_ _) | (with_reducible refine Kd.C_drewN ?_ _) | (with_reducible refine Kd.C_drew ?_)))
      (case side2 => exact (Kd.R_reads' HO165.out).2.1)
      rintro e w208 ⟨rfl, hb⟩
      refine ⟨_, rfl, ?_⟩
      have n0_ := Aside0.mk (Kd.R_below (kr_ HO165) hb)
      have n1_ := bk_ BK159 hb
      have n2_ := Aside0.mk (below_step hb_ hb)
      clear HO165
      clear BK159
      clear HB
      have HO165 := n0_
      have BK159 := n1_
      have HB := n2_
      clear n0_ n1_ n2_
      (try clear hb)
      (try clear hb2)
      (try clear hk)
      (try clear hi)
      refine hK.out _ _ ⟨(blk_cell BK159.out 0).trans rfl, (blk_cell BK159.out 1).trans rfl, (blk_cell BK159.out 2).trans rfl, (blk_cell BK159.out 3).trans rfl, (blk_cell BK159.out 4).trans rfl, (blk_cell BK159.out 5).trans rfl, (blk_cell BK159.out 6).trans rfl⟩ (fun hHeld => ?_)
      clear hK K
      refine norm_ (a' := ?_) ?_ ?_
      rotate_left
      ·
       show Act.put _ (some 32) _ = _
       simp only [ap_, s0_, s1_, i64_w]
       rfl
      refine pu_ HT_ 5 27 (bl 10 63) ?_
      refine pu_ HT_ 6 33 (bl 10 127) ?_
      refine pu_ HT_ 7 34 (bl 10 255) ?_
      refine pu_ HT_ 8 5 (bl 10 511) ?_
      refine pu_ HT_ 9 6 (bl 10 1023) ?_
      refine done_ (done_of HT_.out (by kernel_rfl)) ?_
      have hcz209_0 := bc0 BK159
      have hcz209_1 := bc1 BK159
      have hcz209_2 := bc2 BK159
      have hcz209_3 := bc3 BK159
      have hcz209_4 := bc4 BK159
      have hcz209_5 := bc5 BK159
      have hcz209_6 := bc6 BK159
      have hfz209_0 := blk_frozen BK159.out 0
      have hfz209_1 := blk_frozen BK159.out 1
      have hfz209_2 := blk_frozen BK159.out 2
      have hfz209_3 := blk_frozen BK159.out 3
      have hfz209_4 := blk_frozen BK159.out 4
      have hfz209_5 := blk_frozen BK159.out 5
      have hfz209_6 := blk_frozen BK159.out 6
      try go_wp2_with (first | ((with_reducible refine gate_callee (f := 16) rfl ?_); refine goesL_ (some 39) rfl rfl Try.func16 (by kernel_rfl) rfl #[.slice A0 l0.length c0, .string a1_2] rfl am_ ?_; (with_reducible refine (hopmeshref14_Find.calls kj4 _ _ l0 a1_2 t168 t169 _ ?side1 ?side2 A18.out).mono ?_); (case side1 => repeat (first | exact (Kd.C_below HR0.out HB.out) | (with_reducible refine Kd.C_alloc ?_ _) | (with_reducible refine Kd.C_drewN ?_ _) | (with_reducible refine Kd.C_drew ?_))); (case side2 => exact HC0.out); rintro e w210 ⟨rfl, hb⟩; refine ⟨_, rfl, ?_⟩; have n0_ := Aside0.mk (Kd.R_below (kr_ HO165) hb); have n1_ := bk_ BK159 hb; have n2_ := Aside0.mk (below_step hb_ hb); clear HO165; clear BK159; clear HB; have HO165 := n0_; have BK159 := n1_; have HB := n2_; clear n0_ n1_ n2_; (try clear hb); (try clear hb2); (try clear hk); (try clear hi)))
      have n0_ := Aside0.mk (Kd.R_drew HO165.out)
      have n1_ := Aside0.mk (blk_drew BK159.out)
      have n2_ := Aside0.mk (below_drew1 HB.out)
      clear HO165
      clear BK159
      clear HB
      have HO165 := n0_
      have BK159 := n1_
      have HB := n2_
      clear n0_ n1_ n2_
      refine start_ (n := 9) (S := fun w' => w'.cell? ⟨gb159, 0, none⟩ = some (.int .i64 a1_0) ∧ w'.cell? ⟨gb159, 1, none⟩ = some (.int .i64 a1_1) ∧ w'.cell? ⟨gb159, 2, none⟩ = some (.string a1_2) ∧ w'.cell? ⟨gb159, 3, none⟩ = some (.string a1_3) ∧ w'.cell? ⟨gb159, 4, none⟩ = some (.int .i64 a1_4) ∧ w'.cell? ⟨gb159, 5, none⟩ = some (.int .i64 a1_5) ∧ w'.cell? ⟨gb159, 6, none⟩ = some (.int .i64 a1_6)) (ds := []) #[false, false, false, false, false, false, false, false, false] (by kernel_rfl) rfl rfl ⟨(blk_cell BK159.out 0).trans rfl, (blk_cell BK159.out 1).trans rfl, (blk_cell BK159.out 2).trans rfl, (blk_cell BK159.out 3).trans rfl, (blk_cell BK159.out 4).trans rfl, (blk_cell BK159.out 5).trans rfl, (blk_cell BK159.out 6).trans rfl⟩ (fun hHeld => ?_); refine with_tabW hopmeshlaw14_CompressWrites.tab7 hopmeshlaw14_CompressWrites.bits7 (fun HT_ HW_ => ?_)
      generalize w210.drew = w211 at HO165 BK159 HB hHeld ⊢
      refine pu_ HT_ 0 43 (bl 9 1) ?_
      refine tk_ HT_ HW_ hHeld 2 45 (bl 9 5) ?_
      refine one_ (i := 1) (N := some 44) (bl 9 7) rfl rfl (one_of HT_.out (by kernel_rfl)) (by decide) (fun K hK => ?_)
      refine goes_ Try.func14 (by kernel_rfl) rfl #[.slice A0 l0.length c0] (by rfl) rfl rfl am_ ?_
      with_reducible refine (api_Context.calls _ _ l0 t170 _ ?side1 ?side2 A19.out).mono ?_
      (case side1 => repeat (first | exact (Kd.C_below HR0.out HB.out) | (with_reducible refine Kd.C_alloc ?_ _) | (with_reducible refine Kd.C_drewN ?_ _) | (with_reducible refine Kd.C_drew ?_)))
      (case side2 => exact HC0.out)
      rintro e w212 ⟨v171, rfl, ho0, hb⟩
      refine ⟨_, rfl, ?_⟩
      have n0_ := Aside0.mk (Kd.R_elder' (kr_ HO165) (Kd.R_base ho0) hb)
      have n1_ := Aside0.mk (Kd.R_lower (Kd.R_new' ho0 (Kd.R_lt (kr_ HO165))) (below_size hb_))
      have n2_ := bk_ BK159 hb
      have n3_ := Aside0.mk (below_step hb_ hb)
      clear HO165
      clear BK159
      clear HB
      have HO165 := n0_
      have HO172 := n1_
      have BK159 := n2_
      have HB := n3_
      clear n0_ n1_ n2_ n3_
      (try clear hb)
      (try clear hb2)
      (try clear hk)
      (try clear hi)
      (try clear ho0)
      obtain ⟨Ao213, co213, eo213⟩ := Kd.R_slice HO172.out
      (first | subst eo213 | (injection eo213 with f1_ f2_ f3_; have f4_ := f1_.symm; have f5_ := f3_.symm; clear f1_ f2_ f3_; subst f4_; subst f5_))
      refine hK.out _ _ ⟨(blk_cell BK159.out 0).trans rfl, (blk_cell BK159.out 1).trans rfl, (blk_cell BK159.out 2).trans rfl, (blk_cell BK159.out 3).trans rfl, (blk_cell BK159.out 4).trans rfl, (blk_cell BK159.out 5).trans rfl, (blk_cell BK159.out 6).trans rfl⟩ (fun hHeld => ?_)
      clear hK K
      refine norm_ (a' := ?_) ?_ ?_
      rotate_left
      ·
       show Act.put _ (some 44) _ = _
       simp only [ap_, s0_, s1_, i64_w]
       rfl
      refine one_ (i := 3) (N := some 46) (bl 9 15) rfl rfl (one_of HT_.out (by kernel_rfl)) (by decide) (fun K hK => ?_)
      refine goes_ Try.func17 (by kernel_rfl) rfl #[.slice Ao213 t170.length co213, .agg #[.int .i64 a1_0, .int .i64 a1_1, .string a1_2, .string a1_3, .int .i64 a1_4, .int .i64 a1_5, .int .i64 a1_6]] (by rfl) rfl rfl am_ ?_
      with_reducible refine (compress_Compress.calls _ _ t170 a1_0 a1_1 a1_2 a1_3 a1_4 a1_5 a1_6 t173 t174 _ ?side1 ?side2 A20.out).mono ?_
      (case side1 => repeat (first | exact (Kd.R_reads' HO172.out).2.2 | (with_reducible refine Kd.C_alloc ?_ _) | (with_reducible refine Kd.C_drewN ?_ _) | (with_reducible refine Kd.C_drew ?_)))
      (case side2 => exact (Kd.R_reads' HO172.out).2.1)
      rintro e w214 ⟨rfl, hb⟩
      refine ⟨_, rfl, ?_⟩
      have n0_ := Aside0.mk (Kd.R_below (kr_ HO165) hb)
      have n1_ := Aside0.mk (Kd.R_below (kr_ HO172) hb)
      have n2_ := bk_ BK159 hb
      have n3_ := Aside0.mk (below_step hb_ hb)
      clear HO165
      clear HO172
      clear BK159
      clear HB
      have HO165 := n0_
      have HO172 := n1_
      have BK159 := n2_
      have HB := n3_
      clear n0_ n1_ n2_ n3_
      (try clear hb)
      (try clear hb2)
      (try clear hk)
      (try clear hi)
      refine hK.out _ _ ⟨(blk_cell BK159.out 0).trans rfl, (blk_cell BK159.out 1).trans rfl, (blk_cell BK159.out 2).trans rfl, (blk_cell BK159.out 3).trans rfl, (blk_cell BK159.out 4).trans rfl, (blk_cell BK159.out 5).trans rfl, (blk_cell BK159.out 6).trans rfl⟩ (fun hHeld => ?_)
      clear hK K
      refine norm_ (a' := ?_) ?_ ?_
      rotate_left
      ·
       show Act.put _ (some 46) _ = _
       simp only [ap_, s0_, s1_, i64_w]
       rfl
      refine pu_ HT_ 4 42 (bl 9 31) ?_
      refine pu_ HT_ 5 47 (bl 9 63) ?_
      refine pu_ HT_ 6 48 (bl 9 127) ?_
      refine pu_ HT_ 7 9 (bl 9 255) ?_
      refine pu_ HT_ 8 10 (bl 9 511) ?_
      refine done_ (done_of HT_.out (by kernel_rfl)) ?_
      have hcz215_0 := bc0 BK159
      have hcz215_1 := bc1 BK159
      have hcz215_2 := bc2 BK159
      have hcz215_3 := bc3 BK159
      have hcz215_4 := bc4 BK159
      have hcz215_5 := bc5 BK159
      have hcz215_6 := bc6 BK159
      have hfz215_0 := blk_frozen BK159.out 0
      have hfz215_1 := blk_frozen BK159.out 1
      have hfz215_2 := blk_frozen BK159.out 2
      have hfz215_3 := blk_frozen BK159.out 3
      have hfz215_4 := blk_frozen BK159.out 4
      have hfz215_5 := blk_frozen BK159.out 5
      have hfz215_6 := blk_frozen BK159.out 6
      try go_wp2_with (first | ((with_reducible refine gate_callee (f := 18) rfl ?_); refine goesL_ (some 52) rfl rfl Try.func18 (by kernel_rfl) rfl #[.slice A0 l0.length c0, .agg #[.int .i64 a1_0, .int .i64 a1_1, .string a1_2, .string a1_3, .int .i64 a1_4, .int .i64 a1_5, .int .i64 a1_6]] rfl am_ ?_; (with_reducible refine (hopmeshref14_Compress.calls _ _ l0 a1_0 a1_1 a1_2 a1_3 a1_4 a1_5 a1_6 t175 t176 _ ?side1 ?side2 A21.out).mono ?_); (case side1 => repeat (first | exact (Kd.C_below HR0.out HB.out) | (with_reducible refine Kd.C_alloc ?_ _) | (with_reducible refine Kd.C_drewN ?_ _) | (with_reducible refine Kd.C_drew ?_))); (case side2 => exact HC0.out); rintro e w216 ⟨rfl, hb⟩; refine ⟨_, rfl, ?_⟩; have n0_ := Aside0.mk (Kd.R_below (kr_ HO165) hb); have n1_ := Aside0.mk (Kd.R_below (kr_ HO172) hb); have n2_ := bk_ BK159 hb; have n3_ := Aside0.mk (below_step hb_ hb); clear HO165; clear HO172; clear BK159; clear HB; have HO165 := n0_; have HO172 := n1_; have BK159 := n2_; have HB := n3_; clear n0_ n1_ n2_ n3_; (try clear hb); (try clear hb2); (try clear hk); (try clear hi)))
      have n0_ := Aside0.mk (Kd.R_drew HO165.out)
      have n1_ := Aside0.mk (Kd.R_drew HO172.out)
      have n2_ := Aside0.mk (blk_drew BK159.out)
      have n3_ := Aside0.mk (below_drew1 HB.out)
      clear HO165
      clear HO172
      clear BK159
      clear HB
      have HO165 := n0_
      have HO172 := n1_
      have BK159 := n2_
      have HB := n3_
      clear n0_ n1_ n2_ n3_
      refine start_ (n := 9) (S := fun w' => w'.cell? ⟨gb159, 0, none⟩ = some (.int .i64 a1_0) ∧ w'.cell? ⟨gb159, 1, none⟩ = some (.int .i64 a1_1) ∧ w'.cell? ⟨gb159, 2, none⟩ = some (.string a1_2) ∧ w'.cell? ⟨gb159, 3, none⟩ = some (.string a1_3) ∧ w'.cell? ⟨gb159, 4, none⟩ = some (.int .i64 a1_4) ∧ w'.cell? ⟨gb159, 5, none⟩ = some (.int .i64 a1_5) ∧ w'.cell? ⟨gb159, 6, none⟩ = some (.int .i64 a1_6)) (ds := []) #[false, false, false, false, false, false, false, false, false] (by kernel_rfl) rfl rfl ⟨(blk_cell BK159.out 0).trans rfl, (blk_cell BK159.out 1).trans rfl, (blk_cell BK159.out 2).trans rfl, (blk_cell BK159.out 3).trans rfl, (blk_cell BK159.out 4).trans rfl, (blk_cell BK159.out 5).trans rfl, (blk_cell BK159.out 6).trans rfl⟩ (fun hHeld => ?_); refine with_tabW hopmeshlaw14_CompressWrites.tab9 hopmeshlaw14_CompressWrites.bits9 (fun HT_ HW_ => ?_)
      generalize w216.drew = w217 at HO165 HO172 BK159 HB hHeld ⊢
      refine pu_ HT_ 0 56 (bl 9 1) ?_
      refine tk_ HT_ HW_ hHeld 2 58 (bl 9 5) ?_
      refine one_ (i := 1) (N := some 57) (bl 9 7) rfl rfl (one_of HT_.out (by kernel_rfl)) (by decide) (fun K hK => ?_)
      refine goes_ Try.func14 (by kernel_rfl) rfl #[.slice A0 l0.length c0] (by rfl) rfl rfl am_ ?_
      with_reducible refine (api_Context.calls _ _ l0 t177 _ ?side1 ?side2 A22.out).mono ?_
      (case side1 => repeat (first | exact (Kd.C_below HR0.out HB.out) | (with_reducible refine Kd.C_alloc ?_ _) | (with_reducible refine Kd.C_drewN ?_ _) | (with_reducible refine Kd.C_drew ?_)))
      (case side2 => exact HC0.out)
      rintro e w218 ⟨v178, rfl, ho0, hb⟩
      refine ⟨_, rfl, ?_⟩
      have n0_ := Aside0.mk (Kd.R_elder' (kr_ HO165) (Kd.R_base ho0) hb)
      have n1_ := Aside0.mk (Kd.R_elder' (kr_ HO172) (Kd.R_base ho0) hb)
      have n2_ := Aside0.mk (Kd.R_lower (Kd.R_new' (Kd.R_new' ho0 (Kd.R_lt (kr_ HO165))) (Kd.R_lt (kr_ HO172))) (below_size hb_))
      have n3_ := bk_ BK159 hb
      have n4_ := Aside0.mk (below_step hb_ hb)
      clear HO165
      clear HO172
      clear BK159
      clear HB
      have HO165 := n0_
      have HO172 := n1_
      have HO179 := n2_
      have BK159 := n3_
      have HB := n4_
      clear n0_ n1_ n2_ n3_ n4_
      (try clear hb)
      (try clear hb2)
      (try clear hk)
      (try clear hi)
      (try clear ho0)
      obtain ⟨Ao219, co219, eo219⟩ := Kd.R_slice HO179.out
      (first | subst eo219 | (injection eo219 with f1_ f2_ f3_; have f4_ := f1_.symm; have f5_ := f3_.symm; clear f1_ f2_ f3_; subst f4_; subst f5_))
      refine hK.out _ _ ⟨(blk_cell BK159.out 0).trans rfl, (blk_cell BK159.out 1).trans rfl, (blk_cell BK159.out 2).trans rfl, (blk_cell BK159.out 3).trans rfl, (blk_cell BK159.out 4).trans rfl, (blk_cell BK159.out 5).trans rfl, (blk_cell BK159.out 6).trans rfl⟩ (fun hHeld => ?_)
      clear hK K
      refine norm_ (a' := ?_) ?_ ?_
      rotate_left
      ·
       show Act.put _ (some 57) _ = _
       simp only [ap_, s0_, s1_, i64_w]
       rfl
      refine one_ (i := 3) (N := some 59) (bl 9 15) rfl rfl (one_of HT_.out (by kernel_rfl)) (by decide) (fun K hK => ?_)
      refine goes_ Try.func13 (by kernel_rfl) rfl #[.slice Ao219 t177.length co219, .agg #[.int .i64 a1_0, .int .i64 a1_1, .string a1_2, .string a1_3, .int .i64 a1_4, .int .i64 a1_5, .int .i64 a1_6]] (by rfl) rfl rfl am_ ?_
      with_reducible refine (compress_Bits.calls _ _ t177 a1_0 a1_1 a1_2 a1_3 a1_4 a1_5 a1_6 t180 t181 _ ?side1 ?side2 A23.out).mono ?_
      (case side1 => repeat (first | exact (Kd.R_reads' HO179.out).2.2 | (with_reducible refine Kd.C_alloc ?_ _) | (with_reducible refine Kd.C_drewN ?_ _) | (with_reducible refine Kd.C_drew ?_)))
      (case side2 => exact (Kd.R_reads' HO179.out).2.1)
      rintro e w220 ⟨rfl, hb⟩
      refine ⟨_, rfl, ?_⟩
      have n0_ := Aside0.mk (Kd.R_below (kr_ HO165) hb)
      have n1_ := Aside0.mk (Kd.R_below (kr_ HO172) hb)
      have n2_ := Aside0.mk (Kd.R_below (kr_ HO179) hb)
      have n3_ := bk_ BK159 hb
      have n4_ := Aside0.mk (below_step hb_ hb)
      clear HO165
      clear HO172
      clear HO179
      clear BK159
      clear HB
      have HO165 := n0_
      have HO172 := n1_
      have HO179 := n2_
      have BK159 := n3_
      have HB := n4_
      clear n0_ n1_ n2_ n3_ n4_
      (try clear hb)
      (try clear hb2)
      (try clear hk)
      (try clear hi)
      refine hK.out _ _ ⟨(blk_cell BK159.out 0).trans rfl, (blk_cell BK159.out 1).trans rfl, (blk_cell BK159.out 2).trans rfl, (blk_cell BK159.out 3).trans rfl, (blk_cell BK159.out 4).trans rfl, (blk_cell BK159.out 5).trans rfl, (blk_cell BK159.out 6).trans rfl⟩ (fun hHeld => ?_)
      clear hK K
      refine norm_ (a' := ?_) ?_ ?_
      rotate_left
      ·
       show Act.put _ (some 59) _ = _
       simp only [ap_, s0_, s1_, i64_w]
       rfl
      refine pu_ HT_ 4 55 (bl 9 31) ?_
      refine pu_ HT_ 5 60 (bl 9 63) ?_
      refine pu_ HT_ 6 61 (bl 9 127) ?_
      refine pu_ HT_ 7 13 (bl 9 255) ?_
      refine pu_ HT_ 8 14 (bl 9 511) ?_
      refine done_ (done_of HT_.out (by kernel_rfl)) ?_
      have hcz221_0 := bc0 BK159
      have hcz221_1 := bc1 BK159
      have hcz221_2 := bc2 BK159
      have hcz221_3 := bc3 BK159
      have hcz221_4 := bc4 BK159
      have hcz221_5 := bc5 BK159
      have hcz221_6 := bc6 BK159
      have hfz221_0 := blk_frozen BK159.out 0
      have hfz221_1 := blk_frozen BK159.out 1
      have hfz221_2 := blk_frozen BK159.out 2
      have hfz221_3 := blk_frozen BK159.out 3
      have hfz221_4 := blk_frozen BK159.out 4
      have hfz221_5 := blk_frozen BK159.out 5
      have hfz221_6 := blk_frozen BK159.out 6
      try go_wp2_with (first | ((with_reducible refine gate_callee (f := 19) rfl ?_); refine goesL_ (some 65) rfl rfl Try.func19 (by kernel_rfl) rfl #[.slice A0 l0.length c0, .agg #[.int .i64 a1_0, .int .i64 a1_1, .string a1_2, .string a1_3, .int .i64 a1_4, .int .i64 a1_5, .int .i64 a1_6]] rfl am_ ?_; (with_reducible refine (hopmeshref14_Bits.calls _ _ l0 a1_0 a1_1 a1_2 a1_3 a1_4 a1_5 a1_6 t182 t183 _ ?side1 ?side2 A24.out).mono ?_); (case side1 => repeat (first | exact (Kd.C_below HR0.out HB.out) | (with_reducible refine Kd.C_alloc ?_ _) | (with_reducible refine Kd.C_drewN ?_ _) | (with_reducible refine Kd.C_drew ?_))); (case side2 => exact HC0.out); rintro e w222 ⟨rfl, hb⟩; refine ⟨_, rfl, ?_⟩; have n0_ := Aside0.mk (Kd.R_below (kr_ HO165) hb); have n1_ := Aside0.mk (Kd.R_below (kr_ HO172) hb); have n2_ := Aside0.mk (Kd.R_below (kr_ HO179) hb); have n3_ := bk_ BK159 hb; have n4_ := Aside0.mk (below_step hb_ hb); clear HO165; clear HO172; clear HO179; clear BK159; clear HB; have HO165 := n0_; have HO172 := n1_; have HO179 := n2_; have BK159 := n3_; have HB := n4_; clear n0_ n1_ n2_ n3_ n4_; (try clear hb); (try clear hb2); (try clear hk); (try clear hi)))
      have n0_ := Aside0.mk (Kd.R_drew HO165.out)
      have n1_ := Aside0.mk (Kd.R_drew HO172.out)
      have n2_ := Aside0.mk (Kd.R_drew HO179.out)
      have n3_ := Aside0.mk (blk_drew BK159.out)
      have n4_ := Aside0.mk (below_drew1 HB.out)
      clear HO165
      clear HO172
      clear HO179
      clear BK159
      clear HB
      have HO165 := n0_
      have HO172 := n1_
      have HO179 := n2_
      have BK159 := n3_
      have HB := n4_
      clear n0_ n1_ n2_ n3_ n4_
      refine start_ (n := 44) (S := fun w' => w'.cell? ⟨gb159, 0, none⟩ = some (.int .i64 a1_0) ∧ w'.cell? ⟨gb159, 1, none⟩ = some (.int .i64 a1_1) ∧ w'.cell? ⟨gb159, 2, none⟩ = some (.string a1_2) ∧ w'.cell? ⟨gb159, 3, none⟩ = some (.string a1_3) ∧ w'.cell? ⟨gb159, 4, none⟩ = some (.int .i64 a1_4) ∧ w'.cell? ⟨gb159, 5, none⟩ = some (.int .i64 a1_5) ∧ w'.cell? ⟨gb159, 6, none⟩ = some (.int .i64 a1_6)) (ds := []) #[false, false, false, false, false, false, false, false, false, false, false, false, false, false, false, false, false, false, false, false, false, false, false, false, false, false, false, false, false, false, false, false, false, false, false, false, false, false, false, false, false, false, false, false] (by kernel_rfl) rfl rfl ⟨(blk_cell BK159.out 0).trans rfl, (blk_cell BK159.out 1).trans rfl, (blk_cell BK159.out 2).trans rfl, (blk_cell BK159.out 3).trans rfl, (blk_cell BK159.out 4).trans rfl, (blk_cell BK159.out 5).trans rfl, (blk_cell BK159.out 6).trans rfl⟩ (fun hHeld => ?_); refine with_tabW hopmeshlaw14_CompressWrites.tab11 hopmeshlaw14_CompressWrites.bits11 (fun HT_ HW_ => ?_)
      generalize w222.drew = w223 at HO165 HO172 HO179 BK159 HB hHeld ⊢
      refine tk_ HT_ HW_ hHeld 0 68 (bl 44 1) ?_
      refine tk_ HT_ HW_ hHeld 2 70 (bl 44 5) ?_
      refine one_ (i := 1) (N := some 69) (bl 44 7) rfl rfl (one_of HT_.out (by kernel_rfl)) (by decide) (fun K hK => ?_)
      refine goes_ Try.func20 (by kernel_rfl) rfl #[.agg #[.int .i64 a1_0, .int .i64 a1_1, .string a1_2, .string a1_3, .int .i64 a1_4, .int .i64 a1_5, .int .i64 a1_6]] (by rfl) rfl rfl am_ ?_
      with_reducible refine (compress_Check.calls kj4 a1_0 a1_1 a1_2 a1_3 a1_4 a1_5 a1_6 t184 _ A25.out).mono ?_
      rintro e w224 ⟨rfl, hb⟩
      refine ⟨_, rfl, ?_⟩
      have n0_ := Aside0.mk (Kd.R_below (kr_ HO165) hb)
      have n1_ := Aside0.mk (Kd.R_below (kr_ HO172) hb)
      have n2_ := Aside0.mk (Kd.R_below (kr_ HO179) hb)
      have n3_ := bk_ BK159 hb
      have n4_ := Aside0.mk (below_step hb_ hb)
      clear HO165
      clear HO172
      clear HO179
      clear BK159
      clear HB
      have HO165 := n0_
      have HO172 := n1_
      have HO179 := n2_
      have BK159 := n3_
      have HB := n4_
      clear n0_ n1_ n2_ n3_ n4_
      (try clear hb)
      (try clear hb2)
      (try clear hk)
      (try clear hi)
      refine hK.out _ _ ⟨(blk_cell BK159.out 0).trans rfl, (blk_cell BK159.out 1).trans rfl, (blk_cell BK159.out 2).trans rfl, (blk_cell BK159.out 3).trans rfl, (blk_cell BK159.out 4).trans rfl, (blk_cell BK159.out 5).trans rfl, (blk_cell BK159.out 6).trans rfl⟩ (fun hHeld => ?_)
      clear hK K
      refine norm_ (a' := ?_) ?_ ?_
      rotate_left
      ·
       show Act.put _ (some 69) _ = _
       simp only [ap_, s0_, s1_, i64_w]
       rfl
      refine one_ (i := 3) (N := some 71) (bl 44 15) rfl rfl (one_of HT_.out (by kernel_rfl)) (by decide) (fun K hK => ?_)
      refine goes_ Try.func21 (by kernel_rfl) rfl #[.agg #[.int .i64 a1_0, .int .i64 a1_1, .string a1_2, .string a1_3, .int .i64 a1_4, .int .i64 a1_5, .int .i64 a1_6]] (by rfl) rfl rfl am_ ?_
      with_reducible refine (hopmeshref14_Check.calls kj4 a1_0 a1_1 a1_2 a1_3 a1_4 a1_5 a1_6 t185 _ A26.out).mono ?_
      rintro e w225 ⟨rfl, hb⟩
      refine ⟨_, rfl, ?_⟩
      have n0_ := Aside0.mk (Kd.R_below (kr_ HO165) hb)
      have n1_ := Aside0.mk (Kd.R_below (kr_ HO172) hb)
      have n2_ := Aside0.mk (Kd.R_below (kr_ HO179) hb)
      have n3_ := bk_ BK159 hb
      have n4_ := Aside0.mk (below_step hb_ hb)
      clear HO165
      clear HO172
      clear HO179
      clear BK159
      clear HB
      have HO165 := n0_
      have HO172 := n1_
      have HO179 := n2_
      have BK159 := n3_
      have HB := n4_
      clear n0_ n1_ n2_ n3_ n4_
      (try clear hb)
      (try clear hb2)
      (try clear hk)
      (try clear hi)
      refine hK.out _ _ ⟨(blk_cell BK159.out 0).trans rfl, (blk_cell BK159.out 1).trans rfl, (blk_cell BK159.out 2).trans rfl, (blk_cell BK159.out 3).trans rfl, (blk_cell BK159.out 4).trans rfl, (blk_cell BK159.out 5).trans rfl, (blk_cell BK159.out 6).trans rfl⟩ (fun hHeld => ?_)
      clear hK K
      refine norm_ (a' := ?_) ?_ ?_
      rotate_left
      ·
       show Act.put _ (some 71) _ = _
       simp only [ap_, s0_, s1_, i64_w]
       rfl
      refine pu_ HT_ 4 72 (bl 44 31) ?_
      refine pu_ HT_ 5 73 (bl 44 63) ?_
      refine of_ HT_ 6 74 (bl 44 127) ?_
      refine of_ HT_ 7 75 (bl 44 255) ?_
      refine of_ HT_ 8 76 (bl 44 511) ?_
      refine of_ HT_ 9 77 (bl 44 1023) ?_
      refine of_ HT_ 10 78 (bl 44 2047) ?_
      refine of_ HT_ 11 79 (bl 44 4095) ?_
      refine pu_ HT_ 12 80 (bl 44 8191) ?_
      refine pu_ HT_ 13 81 (bl 44 16383) ?_
      refine of_ HT_ 14 82 (bl 44 32767) ?_
      refine of_ HT_ 15 83 (bl 44 65535) ?_
      refine of_ HT_ 16 84 (bl 44 131071) ?_
      refine pu_ HT_ 17 85 (bl 44 262143) ?_
      refine pu_ HT_ 18 86 (bl 44 524287) ?_
      refine of_ HT_ 19 87 (bl 44 1048575) ?_
      refine of_ HT_ 20 88 (bl 44 2097151) ?_
      refine of_ HT_ 21 89 (bl 44 4194303) ?_
      refine pu_ HT_ 22 90 (bl 44 8388607) ?_
      refine pu_ HT_ 23 91 (bl 44 16777215) ?_
      refine of_ HT_ 24 92 (bl 44 33554431) ?_
      refine of_ HT_ 25 93 (bl 44 67108863) ?_
      refine of_ HT_ 26 94 (bl 44 134217727) ?_
      refine pu_ HT_ 27 95 (bl 44 268435455) ?_
      refine pu_ HT_ 28 96 (bl 44 536870911) ?_
      refine of_ HT_ 29 97 (bl 44 1073741823) ?_
      refine of_ HT_ 30 98 (bl 44 2147483647) ?_
      refine of_ HT_ 31 99 (bl 44 4294967295) ?_
      refine pu_ HT_ 32 100 (bl 44 8589934591) ?_
      refine pu_ HT_ 33 101 (bl 44 17179869183) ?_
      refine of_ HT_ 34 102 (bl 44 34359738367) ?_
      refine of_ HT_ 35 103 (bl 44 68719476735) ?_
      refine of_ HT_ 36 104 (bl 44 137438953471) ?_
      refine pu_ HT_ 37 105 (bl 44 274877906943) ?_
      refine pu_ HT_ 38 106 (bl 44 549755813887) ?_
      refine of_ HT_ 39 107 (bl 44 1099511627775) ?_
      refine of_ HT_ 40 108 (bl 44 2199023255551) ?_
      refine of_ HT_ 41 109 (bl 44 4398046511103) ?_
      refine pu_ HT_ 42 110 (bl 44 8796093022207) ?_
      refine pu_ HT_ 43 4 (bl 44 17592186044415) ?_
      refine done_ (done_of HT_.out (by kernel_rfl)) ?_
      try go_wp2
      go_ret
      exact ⟨er_, hb_⟩
 ·
  replace c4 := Bool.eq_false_iff.mpr c4
  subst c4
  have H1 : (some false) = some r := by rw [if_neg (show ¬ (false = true) by decide)] at H; exact H
  clear H
  have H := H1
  clear H1
  obtain rfl := Option.some.inj H
  go_enter Try.func4, Try.ntmps4
  go_wp2_with (first | ((with_reducible refine gate_dst (N := 3) rfl ?_); refine bx_ 3 #[.int .i64 a1_0, .int .i64 a1_1, .string a1_2, .string a1_3, .int .i64 a1_4, .int .i64 a1_5, .int .i64 a1_6] 24 ?_; intro gb159 hg w226 hbox hb; have n0_ := Aside0.mk (below_step hb_ hb); have n1_ := Aside0.mk (hbox); have n2_ := Aside0.mk ((by rw [hg]; exact (below_size hb_) : w.heap.size ≤ gb159)); have n3_ := Aside0.mk ((by rw [hg]; exact (below_size hb_) : w.heap.size ≤ gb159)); clear HB; have HB := n0_; have BK159 := n1_; have GW159 := n2_; have GE159 := n3_; clear n0_ n1_ n2_ n3_; clear hb hbox hg) | ((with_reducible refine gate_callee (f := 10) rfl ?_); refine goesL_ (some 17) rfl rfl Try.func10 (by kernel_rfl) rfl #[] rfl am_ ?_; (with_reducible refine (hopmeshlaw14_awake.calls k  false _ A3.out).mono ?_); rintro e w227 ⟨rfl, hb⟩; refine ⟨_, rfl, ?_⟩; have n0_ := bk_ BK159 hb; have n1_ := Aside0.mk (below_step hb_ hb); clear BK159; clear HB; have BK159 := n0_; have HB := n1_; clear n0_ n1_; (try clear hb); (try clear hb2); (try clear hk); (try clear hi)))
  go_ret
  exact ⟨er_, hb_⟩

end Go.Proofs.Ytmbbijhppgkdfaa.P14
