/-
  strings.Builder: contracts of its methods. No condition.
-/
import Derived.Test.YtkmmkdeoamhpfaaBu
namespace Go.Proofs.Ytkmmkdeoamhpfaa.bu
open Go.RowKit Go.Eb

theorem b48 : Try.f48.body = some (bodyOf Try.f48) := by kernel_rfl
theorem b32 : Try.f32.body = some (bodyOf Try.f32) := by kernel_rfl
theorem b33 : Try.f33.body = some (bodyOf Try.f33) := by kernel_rfl
theorem b34 : Try.f34.body = some (bodyOf Try.f34) := by kernel_rfl
theorem b35 : Try.f35.body = some (bodyOf Try.f35) := by kernel_rfl
theorem bytes5 : TypeInfo.bytes (Tables.types (Program.toTables Try.prog))[5] = 1 := by kernel_rfl

theorem o48_ok : OrcOk Try.prog o48 := Orc.cons_ok (Orc.nil_ok _) (ansId_ok (fn := Try.f54) rfl (by kernel_rfl) (by kernel_rfl) (by kernel_rfl) (by kernel_rfl))
theorem c48a : CX Try.prog 48 [.c (.ptr 0 0)] (HB0 61) (.tup []) [(0, .cells [.ptr 0 0, .d (.v (.slice none 0 0))] 61)] := cx_of o48_ok rfl b48 rfl (ev48a ())
theorem ev48c (n m : Nat) (f : Nat → List D) : callA Try.prog o48 na 1 Try.f48 (bodyOf Try.f48) [.c (.ptr 0 0)] [(0, .cells [.ptr 0 0, .row 1 1 n] 61), (1, .row m f 1 5)] = some (.leaf (.tup [], [(0, .cells [.ptr 0 0, .row 1 1 n] 61), (1, .row m f 1 5)])) := by kernel_rfl
theorem c48b (n m : Nat) (f : Nat → List D) : CX Try.prog 48 [.c (.ptr 0 0)] [(0, .cells [.ptr 0 0, .row 1 1 n] 61), (1, .row m f 1 5)] (.tup []) [(0, .cells [.ptr 0 0, .row 1 1 n] 61), (1, .row m f 1 5)] := cx_of o48_ok rfl b48 rfl (ev48c n m f)
theorem o32_ok : OrcOk Try.prog o32 := Orc.cons_ok (Orc.nil_ok _) fun R args H k t h => by
  split at h
  · exact ⟨_, _, h, c48a⟩
  · exact ⟨_, _, h, c48b _ _ _⟩
  · simp at h

abbrev rS (s : ByteArray) : AV := .tup [pI s.size, (false, [.d (.v .nilIface)])]
theorem c32a (s : ByteArray) (hs : s.size ≤ bMax) : CX Try.prog 32 [.c (.ptr 0 0), vS s] (HB0 61) (rS s) (HB 61 5 s) := by
  have h := ev32a s
  unfold bMax at hs
  rw [bytes5, show (decide ((0 + s.size) * 1 ≤ 140737488355328) && decide (0 + s.size ≤ 9223372036854775807)) = true from by simp; omega, cond_true] at h
  simp only [dstLen, srcLen, appD, Nat.zero_add, bF_eq] at h
  exact cx_of o32_ok rfl b32 rfl h
theorem c32b (s b : ByteArray) (hs : b.size + s.size ≤ bMax) : CX Try.prog 32 [.c (.ptr 0 0), vS s] (HB 61 5 b) (rS s) (HW 61 5 (b ++ s)) := by
  have h := ev32b s b
  unfold bMax at hs
  rw [bytes5, show (decide ((b.size + s.size) * 1 ≤ 140737488355328) && decide (b.size + s.size ≤ 9223372036854775807)) = true from by simp; omega, cond_true] at h
  simp only [dstLen, srcLen, appD, bF_eq, appF_bF] at h
  simp only [← ByteArray.size_append] at h
  exact cx_of o32_ok rfl b32 rfl h
abbrev rE : AV := .c (.d (.v .nilIface))
theorem c33b (c : UInt8) (b : ByteArray) (hs : b.size + 1 ≤ bMax) : CX Try.prog 33 [.c (.ptr 0 0), v8 c.toNat] (HB 61 5 b) rE (HW 61 5 (b ++ ⟨#[c]⟩)) := by
  have h := ev33b c.toNat b
  unfold bMax at hs
  rw [bytes5, show (decide ((b.size + 1) * 1 ≤ 140737488355328) && decide (b.size + 1 ≤ 9223372036854775807)) = true from by simp; omega, cond_true] at h
  simp only [dstLen, srcLen, appD, Nat.zero_add, chunk_bF, appF_bF] at h
  have e : b.size + 1 = (b ++ (⟨#[c]⟩ : ByteArray)).size := by rw [ByteArray.size_append]; rfl
  rw [e] at h
  exact cx_of o32_ok rfl b33 rfl h
theorem c35a : CX Try.prog 35 [.c (.ptr 0 0)] (HB0 61) (vS .empty) (HB0 61) := cx_of (Orc.nil_ok _) rfl b35 rfl (ev35a ())
theorem c35b (b : ByteArray) (h0 : 0 < b.size) (hs : b.size ≤ bMax) : CX Try.prog 35 [.c (.ptr 0 0)] (HB 61 5 b) (vS b) (HBd 61 b.size) := by
  have h := ev35b b
  unfold bMax at hs
  rw [show decide (0 < b.size) = true from decide_eq_true h0, cond_true, show (decide ((0 : Int) ≤ (b.size : Int)) && decide ((b.size : Int) ≤ 9223372036854775807)) = true from by simp; omega, cond_true] at h
  simp only [Int.toNat_natCast, bytesOk_bF, bytesS_bF, bleD, beqD, Nat.le_refl, decide_true, Bool.and_true, cond_true] at h
  exact cx_of (Orc.nil_ok _) rfl b35 rfl h

/-- a word as it is written -/
def src (w : Wd) : ByteArray := bif w.q then (⟨#[34]⟩ : ByteArray) ++ w.text ++ ⟨#[34]⟩ else w.text
theorem c34 (w : Wd) (hw : w.text.size + 2 ≤ 9223372036854775807) : CX Try.prog 34 [.agg ((wcells w).map .d)] [] (vS (src w)) [] := by
  have h := ev34 w
  have e1 : ByteArray.size (ByteArray.mk #[34]) = 1 := rfl
  rw [show decide (ByteArray.size (ByteArray.mk #[(34 : UInt8)]) + ByteArray.size (Wd.text w) ≤ 9223372036854775807) = true from decide_eq_true (by rw [e1]; omega), show decide (ByteArray.size (ByteArray.mk #[(34 : UInt8)] ++ Wd.text w) + ByteArray.size (ByteArray.mk #[(34 : UInt8)]) ≤ 9223372036854775807) = true from decide_eq_true (by rw [ByteArray.size_append, e1]; omega), cond_true, cond_true] at h
  have h2 : callA Try.prog Orc.nil na 1 Try.f34 (bodyOf Try.f34) [.agg ((wcells w).map .d)] [] = some (.leaf (vS (src w), [])) := by
    rw [h]
    unfold src
    cases w.q <;> rfl
  exact cx_of (Orc.nil_ok _) rfl b34 rfl h2
end Go.Proofs.Ytkmmkdeoamhpfaa.bu
