/-
  The document's example is true.
-/
import Derived.Test.YtekfjpnfhgbalaaQ1
namespace Go.Proofs.Ytekfjpnfhgbalaa.P
open Go.RowKit Go.Proofs.YtekfjpnfhgbalaaW.PrintWords Go.Proofs.YtekfjpnfhgbalaaW.PrintLast
def ex0 : ByteArray := ⟨#[32, 97, 98, 32, 99]⟩
theorem e1 : (F qFull ex0 (At ex0 0)) = 1 := by kernel_rfl
theorem e2 : (F qEmpty ex0 1) = 3 := by kernel_rfl
theorem e3 : (G qEmpty ex0 1) = 4 := by kernel_rfl
theorem e4 : (F qFull ex0 (At ex0 4)) = 4 := by kernel_rfl
theorem e5 : (F qEmpty ex0 4) = 5 := by kernel_rfl
theorem e6 : (G qEmpty ex0 4) = 5 := by kernel_rfl
theorem e7 : (F qFull ex0 (At ex0 5)) = 5 := by kernel_rfl
theorem e8 : (F qEmpty ex0 5) = 5 := by kernel_rfl
theorem e9 : (G qEmpty ex0 5) = 5 := by kernel_rfl
theorem l1 : (ex0.extract 1 3).toList = [97, 98] := by kernel_rfl
theorem l2 : (ex0.extract 4 5).toList = [99] := by kernel_rfl
theorem l3 : (ex0.extract 5 5).toList = [] := by kernel_rfl
theorem u1 : scan_Upper.f ⟨#[97]⟩ = some ⟨#[65]⟩ := by kernel_rfl
theorem u2 : (⟨#[65]⟩ : ByteArray).toList = [65] := by kernel_rfl
theorem n1 : scan_Lines.f ⟨#[]⟩ = some [⟨#[]⟩] := by kernel_rfl
theorem w1 (k : Nat) (hk : 5 < k) : scan_Word.f k ex0 0 = some (ex0.extract 1 3, ex0, 4) := by rw [word_eq ex0 (by decide) 0 k hk, e1, e2, e3]; rfl
theorem w2 (k : Nat) (hk : 5 < k) : scan_Word.f k ex0 4 = some (ex0.extract 4 5, ex0, 5) := by rw [word_eq ex0 (by decide) 4 k hk, e4, e5, e6]; rfl
theorem w3 (k : Nat) (hk : 5 < k) : scan_Word.f k ex0 5 = some (ex0.extract 5 5, ex0, 5) := by rw [word_eq ex0 (by decide) 5 k hk, e7, e8, e9]; rfl
theorem awake_eq (k : Nat) (hk : 5 < k) : tenterhooklaw06_awake.f k = some true := by
  unfold tenterhooklaw06_awake.f
  rw [show (⟨#[32, 97, 98, 32, 99]⟩ : ByteArray) = ex0 from rfl, w1 k hk]
  simp only [Option.bind_some]
  rw [w2 k hk]
  simp only [Option.bind_some]
  rw [w3 k hk]
  simp only [Option.bind_some]
  rw [if_pos l1, if_pos l2, if_pos l3, if_pos trivial, u1]
  simp only [Option.bind_some]
  rw [if_pos u2, n1]
  rfl
end Go.Proofs.Ytekfjpnfhgbalaa.P
