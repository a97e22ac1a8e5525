-- Written by a program of this session (wip/tools) over the kit's print; Lean checks it.
import Derived.Test.YtmbbijhppgkdfaaP140
import Derived.Test.YtmbbijhppgkdfaaP14Aw
import Derived.Test.YtmbbijhppgkdfaaP14Ck
import Derived.Test.YtmbbijhppgkdfaaP14Rc
import Derived.Test.YtmbbijhppgkdfaaP14Fd
import Derived.Test.YtmbbijhppgkdfaaP14Rf
import Derived.Test.YtmbbijhppgkdfaaP14Sh
import Derived.Test.YtmbbijhppgkdfaaGclone
import Derived.Test.YtmbbijhppgkdfaaGcomp
import Derived.Test.YtmbbijhppgkdfaaGcon
import Derived.Test.YtmbbijhppgkdfaaGfew
import Derived.Test.YtmbbijhppgkdfaaGrcomp
namespace Go.Proofs.Ytmbbijhppgkdfaa.P14
open Go.RowKit Go.Proofs.YtmbbijhppgkdfaaW.PrintWords Go.Proofs.YtmbbijhppgkdfaaW.PrintLast Go.Proofs.YtmbbijhppgkdfaaW.PrintMore
attribute [local go_sem] max2_int min2_int max_two min_two max_three min_three max_four min_four   -- for this text's walks alone
set_option linter.unusedVariables false
set_option linter.unusedSimpArgs false

/-! ### hopmeshlaw14_CompressWrites: function 4 -/
def hopmeshlaw14_CompressWrites.j0 : Nat → List (S26) → Bool → Int → Int → ByteArray → ByteArray → Int → Int → Int → Option (Bool)
 | 0, _, _, _, _, _, _, _, _, _ => none
 | k + 1, x0, x26, x160000, x160001, x160002, x160003, x160004, x160005, x160006 => if x26 = true then (some true) else ((api_Context.f x0).bind fun t163 => ((compress_Find.f k t163 x160002).bind fun bt166 => ((hopmeshref14_Find.f k x0 x160002).bind fun bt168 => ((api_Context.f x0).bind fun t170 => ((compress_Compress.f t170 x160000 x160001 x160002 x160003 x160004 x160005 x160006).bind fun bt173 => ((hopmeshref14_Compress.f x0 x160000 x160001 x160002 x160003 x160004 x160005 x160006).bind fun bt175 => ((api_Context.f x0).bind fun t177 => ((compress_Bits.f t177 x160000 x160001 x160002 x160003 x160004 x160005 x160006).bind fun bt180 => ((hopmeshref14_Bits.f x0 x160000 x160001 x160002 x160003 x160004 x160005 x160006).bind fun bt182 => ((compress_Check.f k x160000 x160001 x160002 x160003 x160004 x160005 x160006).bind fun t184 => ((hopmeshref14_Check.f k x160000 x160001 x160002 x160003 x160004 x160005 x160006).bind fun t185 => (if t184 = t185 then ((api_Context.f x0).bind fun t186 => ((compress_Contexts.f t186).bind fun t189 => ((hopmeshref14_Contexts.f k x0).bind fun t190 => (if t189 = t190 then (if bt166.1 = bt168.1 then (if (bt166.2 == bt168.2) = true then (if bt173.1.toList = bt175.1.toList then (if bt173.2 = bt175.2 then (if bt180.1 = bt182.1 then (some (bt180.2 == bt182.2)) else (some false)) else (some false)) else (some false)) else (some false)) else (some false)) else (some false))))) else (some false)))))))))))))
def hopmeshlaw14_CompressWrites.f (k : Nat) (l0 : List (S26)) (a1_0 : Int) (a1_1 : Int) (a1_2 : ByteArray) (a1_3 : ByteArray) (a1_4 : Int) (a1_5 : Int) (a1_6 : Int) : Option (Bool) := (hopmeshlaw14_awake.f k).bind fun t160 => (if t160 = true then ((hopmeshlaw14_few.f l0).bind fun t161 => (if t161 = true then ((hopmeshlaw14_short.f a1_0 a1_1 a1_2 a1_3 a1_4 a1_5 a1_6).bind fun t162 => (hopmeshlaw14_CompressWrites.j0 k l0 (!t162) a1_0 a1_1 a1_2 a1_3 a1_4 a1_5 a1_6)) else (hopmeshlaw14_CompressWrites.j0 k l0 true a1_0 a1_1 a1_2 a1_3 a1_4 a1_5 a1_6))) else (some false))
theorem hopmeshlaw14_CompressWrites.mono_l : ∀ k, (∀ y0 y1 y2 y3 y4 y5 y6 y7 y8, LeO (hopmeshlaw14_CompressWrites.j0 k y0 y1 y2 y3 y4 y5 y6 y7 y8) (hopmeshlaw14_CompressWrites.j0 (k + 1) y0 y1 y2 y3 y4 y5 y6 y7 y8))
 | 0 => fun _ _ _ _ _ _ _ _ _ r h => by simp [hopmeshlaw14_CompressWrites.j0] at h
 | k + 1 => by
  have ih0 := hopmeshlaw14_CompressWrites.mono_l k
  ·
   intro y0 y1 y2 y3 y4 y5 y6 y7 y8
   unfold hopmeshlaw14_CompressWrites.j0
   repeat' first
   | (with_reducible exact ih0 _ _ _ _ _ _ _ _ _)
   | (with_reducible exact compress_Check.mono _ _ _ _ _ _ _ _)
   | (with_reducible exact compress_Find.mono _ _ _)
   | (with_reducible exact hopmeshlaw14_awake.mono _)
   | (with_reducible exact hopmeshref14_Check.mono _ _ _ _ _ _ _ _)
   | (with_reducible exact hopmeshref14_Contexts.mono _ _)
   | (with_reducible exact hopmeshref14_Find.mono _ _ _)
   | (with_reducible exact LeO.refl _)
   | (with_reducible exact LeO.none _)
   | (with_reducible refine LeO.ite ?_ ?_)
   | (with_reducible refine LeO.bind ?_ (fun _ => ?_))
   | exact ih0 _ _ _ _ _ _ _ _ _
   | exact compress_Check.mono _ _ _ _ _ _ _ _
   | exact compress_Find.mono _ _ _
   | exact hopmeshlaw14_awake.mono _
   | exact hopmeshref14_Check.mono _ _ _ _ _ _ _ _
   | exact hopmeshref14_Contexts.mono _ _
   | exact hopmeshref14_Find.mono _ _ _
   | exact LeO.none _
   | refine LeO.ite ?_ ?_
   | refine LeO.bind ?_ (fun _ => ?_)
theorem hopmeshlaw14_CompressWrites.mono : ∀ a0 a1 a2 a3 a4 a5 a6 a7 k, LeO (hopmeshlaw14_CompressWrites.f k a0 a1 a2 a3 a4 a5 a6 a7) (hopmeshlaw14_CompressWrites.f (k + 1) a0 a1 a2 a3 a4 a5 a6 a7) := by
 intro a0 a1 a2 a3 a4 a5 a6 a7 k
 have ih0 := hopmeshlaw14_CompressWrites.mono_l k
 unfold hopmeshlaw14_CompressWrites.f
 repeat' first
   | (with_reducible exact ih0 _ _ _ _ _ _ _ _ _)
   | (with_reducible exact compress_Check.mono _ _ _ _ _ _ _ _)
   | (with_reducible exact compress_Find.mono _ _ _)
   | (with_reducible exact hopmeshlaw14_awake.mono _)
   | (with_reducible exact hopmeshref14_Check.mono _ _ _ _ _ _ _ _)
   | (with_reducible exact hopmeshref14_Contexts.mono _ _)
   | (with_reducible exact hopmeshref14_Find.mono _ _ _)
   | (with_reducible exact LeO.refl _)
   | (with_reducible exact LeO.none _)
   | (with_reducible refine LeO.ite ?_ ?_)
   | (with_reducible refine LeO.bind ?_ (fun _ => ?_))
   | exact ih0 _ _ _ _ _ _ _ _ _
   | exact compress_Check.mono _ _ _ _ _ _ _ _
   | exact compress_Find.mono _ _ _
   | exact hopmeshlaw14_awake.mono _
   | exact hopmeshref14_Check.mono _ _ _ _ _ _ _ _
   | exact hopmeshref14_Contexts.mono _ _
   | exact hopmeshref14_Find.mono _ _ _
   | exact LeO.none _
   | refine LeO.ite ?_ ?_
   | refine LeO.bind ?_ (fun _ => ?_)
def hopmeshlaw14_CompressWrites.T5 : Bool × List (List Nat × List Nat) := (true, [([], []), ([0], [0]), ([], []), ([2], [2]), ([1, 3, 1], [1, 3]), ([4], [4]), ([5], [5]), ([5], [5]), ([6, 4, 0, 1, 2, 3, 4, 5, 6], [6]), ([7, 8, 0, 1, 2, 3, 4, 5, 6, 7, 8], [7])])
def hopmeshlaw14_CompressWrites.B5 : List Nat := [0, 1, 0, 4, 15, 31, 63, 63, 127, 511]
theorem hopmeshlaw14_CompressWrites.tab5 : rtab .any (opsOf Try.f4 5) = hopmeshlaw14_CompressWrites.T5 := by kernel_rfl
theorem hopmeshlaw14_CompressWrites.bits5 : waitsOk hopmeshlaw14_CompressWrites.T5.2 hopmeshlaw14_CompressWrites.B5 = true := by kernel_rfl
def hopmeshlaw14_CompressWrites.T7 : Bool × List (List Nat × List Nat) := (true, [([], []), ([0], [0]), ([], []), ([1, 2, 1], [1, 2]), ([3], [3]), ([4], [4]), ([4], [4]), ([5, 3, 0, 1, 2, 3, 4, 5], [5]), ([6, 7, 0, 1, 2, 3, 4, 5, 6, 7], [6])])
def hopmeshlaw14_CompressWrites.B7 : List Nat := [0, 1, 0, 7, 15, 31, 31, 63, 255]
theorem hopmeshlaw14_CompressWrites.tab7 : rtab .any (opsOf Try.f4 7) = hopmeshlaw14_CompressWrites.T7 := by kernel_rfl
theorem hopmeshlaw14_CompressWrites.bits7 : waitsOk hopmeshlaw14_CompressWrites.T7.2 hopmeshlaw14_CompressWrites.B7 = true := by kernel_rfl
def hopmeshlaw14_CompressWrites.T9 : Bool × List (List Nat × List Nat) := (true, [([], []), ([0], [0]), ([], []), ([1, 2, 1], [1, 2]), ([3], [3]), ([4], [4]), ([4], [4]), ([5, 3, 0, 1, 2, 3, 4, 5], [5]), ([6, 7, 0, 1, 2, 3, 4, 5, 6, 7], [6])])
def hopmeshlaw14_CompressWrites.B9 : List Nat := [0, 1, 0, 7, 15, 31, 31, 63, 255]
theorem hopmeshlaw14_CompressWrites.tab9 : rtab .any (opsOf Try.f4 9) = hopmeshlaw14_CompressWrites.T9 := by kernel_rfl
theorem hopmeshlaw14_CompressWrites.bits9 : waitsOk hopmeshlaw14_CompressWrites.T9.2 hopmeshlaw14_CompressWrites.B9 = true := by kernel_rfl
def hopmeshlaw14_CompressWrites.T11 : Bool × List (List Nat × List Nat) := (true, [([], []), ([0], [0]), ([], []), ([2, 1], [2]), ([1, 3], [1, 3]), ([4, 3], [4]), ([5], [5]), ([6, 5, 5], [5, 6]), ([7, 7, 5], [5, 7]), ([5], [5]), ([9, 8, 5], [5, 9]), ([8, 10, 5], [5, 8, 10]), ([5, 11], [5, 11]), ([12, 10], [12]), ([13], [13]), ([13], [13]), ([14, 15, 13], [13, 14, 15]), ([13, 16], [13, 16]), ([17, 13], [17]), ([18], [18]), ([18], [18]), ([19, 20, 18], [18, 19, 20]), ([18, 21], [18, 21]), ([22, 18], [22]), ([23], [23]), ([23], [23]), ([24, 25, 23], [23, 24, 25]), ([23, 26], [23, 26]), ([27, 23], [27]), ([28], [28]), ([28], [28]), ([29, 30, 28], [28, 29, 30]), ([28, 31], [28, 31]), ([32, 28], [32]), ([33], [33]), ([33], [33]), ([34, 35, 33], [33, 34, 35]), ([33, 36], [33, 36]), ([37, 33], [37]), ([38], [38]), ([38], [38]), ([39, 40, 38], [38, 39, 40]), ([38, 41], [38, 41]), ([42, 38, 0, 1, 2, 3, 4, 5, 6, 7, 8, 9, 10, 11, 12, 13, 14, 15, 16, 17, 18, 19, 20, 21, 22, 23, 24, 25, 26, 27, 28, 29, 30, 31, 32, 33, 34, 35, 36, 37, 38, 39, 40, 41, 42], [42])])
def hopmeshlaw14_CompressWrites.B11 : List Nat := [0, 1, 0, 7, 15, 31, 63, 127, 255, 63, 1023, 2047, 4095, 8191, 16383, 16383, 65535, 131071, 262143, 524287, 524287, 2097151, 4194303, 8388607, 16777215, 16777215, 67108863, 134217727, 268435455, 536870911, 536870911, 2147483647, 4294967295, 8589934591, 17179869183, 17179869183, 68719476735, 137438953471, 274877906943, 549755813887, 549755813887, 2199023255551, 4398046511103, 8796093022207]
theorem hopmeshlaw14_CompressWrites.tab11 : rtab .any (opsOf Try.f4 11) = hopmeshlaw14_CompressWrites.T11 := by kernel_rfl
theorem hopmeshlaw14_CompressWrites.bits11 : waitsOk hopmeshlaw14_CompressWrites.T11.2 hopmeshlaw14_CompressWrites.B11 = true := by kernel_rfl
end Go.Proofs.Ytmbbijhppgkdfaa.P14
