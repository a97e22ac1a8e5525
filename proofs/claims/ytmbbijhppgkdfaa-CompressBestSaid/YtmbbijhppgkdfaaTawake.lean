/- The example of the chapter: a plain law. -/
import Derived.Test.YtmbbijhppgkdfaaP14Aw
namespace Go.Proofs.Ytmbbijhppgkdfaa.P14
open Go.RowKit Go.Proofs.YtmbbijhppgkdfaaW.PrintWords Go.Proofs.YtmbbijhppgkdfaaW.PrintLast Go.Proofs.YtmbbijhppgkdfaaW.PrintMore
set_option linter.unusedVariables false

theorem aw_pack : compress_Compress.f [(⟨(⟨#[10, 0, 1]⟩ : ByteArray)⟩ : S26)] 0 64 (⟨#[10, 0, 1, 5]⟩ : ByteArray) (⟨#[10, 0, 1, 9]⟩ : ByteArray) 61616 61617 20 = some (⟨#[80, 11, 1, 56, 9, 64]⟩, 0) := by
  kernel_rfl
theorem aw_bits : compress_Bits.f [(⟨(⟨#[10, 0, 1]⟩ : ByteArray)⟩ : S26)] 0 64 (⟨#[10, 0, 1, 5]⟩ : ByteArray) (⟨#[10, 0, 1, 9]⟩ : ByteArray) 61616 61617 20 = some (44, 0) := by
  kernel_rfl
theorem aw_con : compress_Contexts.f [(⟨(⟨#[10, 0, 1]⟩ : ByteArray)⟩ : S26)] = some 0 := by
  kernel_rfl
theorem aw_chk (k : Nat) : compress_Check.f (k + 1) 0 64 (⟨#[10, 0, 1, 5]⟩ : ByteArray) (⟨#[10, 0, 1, 9]⟩ : ByteArray) 61616 61617 20 = some 0 := by
  rw [check_eq]
  rfl
theorem awake_eq (k : Nat) : hopmeshlaw14_awake.f (k + 1) = some true := by
  unfold hopmeshlaw14_awake.f
  simp only [Option.bind_some]
  rw [aw_pack, aw_bits, aw_con, aw_chk]
  simp only [Option.bind_some]
  rw [if_pos trivial, if_pos trivial, if_pos trivial, if_pos (by rw [ByteArray.toList_eq]), if_pos trivial]
  rfl
end Go.Proofs.Ytmbbijhppgkdfaa.P14
