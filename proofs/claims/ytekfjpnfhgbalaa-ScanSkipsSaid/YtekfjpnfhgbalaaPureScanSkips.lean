/- Behind blanks there is a word, or the end: skipped twice it is as once; a word is what is parsed there up to a blank. No condition. -/
import Derived.Test.YtekfjpnfhgbalaaP6
import Derived.Test.YtekfjpnfhgbalaaQ2
namespace Go.Proofs.Ytekfjpnfhgbalaa.Pure
open Go.RowKit Go.Proofs.Ytekfjpnfhgbalaa.P Go.Proofs.YtekfjpnfhgbalaaW.PrintWords Go.Proofs.YtekfjpnfhgbalaaW.PrintLast

theorem empty_list : (⟨#[]⟩ : ByteArray).toList = ([] : List UInt8) := by kernel_rfl
theorem ScanSkips : tenterhooklaw06_ScanSkips.Pure := by
  intro s i hs _
  refine ⟨s.size + 10, ?_⟩
  unfold tenterhooklaw06_ScanSkips.f
  rw [awake_eq _ (by omega)]
  simp only [Option.bind_some]
  by_cases hb : (s.size : Int) > 500
  · rw [if_pos hb]
  · rw [if_neg hb, skip_eq s (by omega) i _ (by omega)]
    simp only [Option.bind_some]
    obtain ⟨f1, f2, f3, f4⟩ := F_spec qFull s (At s i) (At_le s i)
    generalize hB : F qFull s (At s i) = B at f1 f2 f3 f4
    rw [left_eq, word_eq s (by omega) i _ (by omega), hB]
    simp only [Option.bind_some]
    rw [parse_eq s (by omega) _ 32 _ (by omega), skip_eq s (by omega) _ _ (by omega), At_nat _ _ f2, qDelim32]
    simp only [Option.bind_some, if_true]
    have hBB : F qFull s B = B := F_hit f2 f4
    rw [hBB]
    simp only [beq_self_eq_true, Bool.and_self, if_true]
    by_cases hlt : B < s.size
    · have hz : (s.extract B s.size).size = s.size - B := by rw [size_ex]; omega
      have hne : ¬ (s.extract B s.size).toList = [] := by
        intro h
        have h2 : (s.extract B s.size).toList.length = 0 := by rw [h]; rfl
        rw [ByteArray.toList_eq, data_length] at h2
        omega
      have hq := f4 hlt
      have hq : bt s (B : Int) > 32 := by simpa [qFull] using hq
      have hb0 := bt_ex s B s.size 0 (by omega) (Nat.le_refl _)
      rw [if_neg hne, if_pos (by omega), if_pos (by rw [show ((0 : Int)) = ((0 : Nat) : Int) from rfl, hb0]; simpa using hq)]
    · have hBs : B = s.size := by omega
      have e : (s.extract B s.size).toList = [] := by
        have : s.extract B s.size = ⟨#[]⟩ := by
          apply ByteArray.ext
          rw [ByteArray.data_extract, hBs]
          simp
        rw [this]
        exact empty_list
      rw [if_pos e]

end Go.Proofs.Ytekfjpnfhgbalaa.Pure
