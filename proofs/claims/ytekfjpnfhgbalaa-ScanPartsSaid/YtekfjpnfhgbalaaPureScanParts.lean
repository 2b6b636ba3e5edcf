/- What is parsed and what is left are the text: with the delimiter in between, if it is there; what is parsed has none. No condition. -/
import Derived.Test.YtekfjpnfhgbalaaP4
import Derived.Test.YtekfjpnfhgbalaaQ2
namespace Go.Proofs.Ytekfjpnfhgbalaa.Pure
set_option linter.unusedVariables false
open Go.RowKit Go.Proofs.Ytekfjpnfhgbalaa.P Go.Proofs.YtekfjpnfhgbalaaW.PrintWords Go.Proofs.YtekfjpnfhgbalaaW.PrintLast

theorem empty_some : (some ((⟨#[]⟩ : ByteArray).toList == ([] : List UInt8)) : Option Bool) = some true := by kernel_rfl
theorem qD32 {c b : Int} {r : Bool} (h : qDelim c b = r) (hc : c = 32) : decide (b ≤ 32) = r := by unfold qDelim at h; rw [if_pos hc] at h; exact h
theorem qDne {c b : Int} {r : Bool} (h : qDelim c b = r) (hc : ¬ c = 32) : (b == c) = r := by unfold qDelim at h; rw [if_neg hc] at h; exact h
theorem parts_loop (s : ByteArray) (hs : s.size ≤ 1000) (c : Int) (hc0 : 0 ≤ c) (hc1 : c ≤ 255) (a : Nat) (ha : a ≤ s.size) :
    ∀ (d k j : Nat), j ≤ F (qDelim c) s a - a → F (qDelim c) s a - a - j = d → d < k →
      tenterhooklaw06_ScanParts.l0 k c true (s.extract a s.size) (s.extract a (F (qDelim c) s a)) (s.extract (G (qDelim c) s a) s.size) (j : Int) = some true := by
  obtain ⟨f1, f2, f3, f4⟩ := F_spec (qDelim c) s a ha
  have hz : (s.extract a (F (qDelim c) s a)).size = F (qDelim c) s a - a := by rw [size_ex]; omega
  have hz2 : (s.extract a s.size).size = s.size - a := by rw [size_ex]; omega
  have hz3 : (s.extract (G (qDelim c) s a) s.size).size = s.size - G (qDelim c) s a := by rw [size_ex]; omega
  intro d
  induction d with
  | zero =>
    intro k j h1 h2 hk
    obtain ⟨k, rfl⟩ : ∃ m, k = m + 1 := ⟨k - 1, by omega⟩
    simp only [tenterhooklaw06_ScanParts.l0]
    rw [if_neg (by omega), hz, hz2, hz3]
    by_cases hlt : F (qDelim c) s a < s.size
    · have hG : G (qDelim c) s a = F (qDelim c) s a + 1 := by unfold G; rw [if_pos hlt]
      rw [hG]
      rw [if_neg (by rw [w64 (by omega) (by omega)]; omega), if_pos trivial, w64 (x := ((F (qDelim c) s a - a : Nat) : Int) + 1) (by omega) (by omega), if_pos (by rw [w64 (by omega) (by omega)]; omega), if_pos (by omega), if_pos (by omega)]
      rw [ex_ex, ex_ex]
      have e1 : s.extract (a + 0) (min (a + ((F (qDelim c) s a - a : Nat) : Int).toNat) s.size) = s.extract a (F (qDelim c) s a) := by congr 1; omega
      have e2 : s.extract (a + (((F (qDelim c) s a - a : Nat) : Int) + 1).toNat) (min (a + (s.size - a)) s.size) = s.extract (F (qDelim c) s a + 1) s.size := by congr 1 <;> omega
      rw [e1, if_pos rfl, if_pos (by omega), if_pos (by omega), e2, if_pos rfl, if_pos (by omega)]
      rw [bt_ex s a s.size _ (by omega) (Nat.le_refl _)]
      have e3 : a + (F (qDelim c) s a - a) = F (qDelim c) s a := by omega
      rw [e3]
      have hq := f4 hlt
      by_cases h32 : c = 32
      · have hq : bt s (F (qDelim c) s a : Int) ≤ 32 := of_decide_eq_true (qD32 hq h32)
        by_cases he : bt s (F (qDelim c) s a : Int) = c
        · rw [if_pos he]
        · rw [if_neg he, if_pos h32]
          have : bt s (F (qDelim c) s a : Int) < 32 := by omega
          simp [this]
      · rw [if_pos (beq_iff_eq.1 (qDne hq h32))]
    · have hG : G (qDelim c) s a = s.size := by unfold G; rw [if_neg hlt]
      have hF : F (qDelim c) s a = s.size := by omega
      rw [hG, hF]
      rw [if_pos (by rw [w64 (by omega) (by omega)]; omega), if_pos trivial, if_pos rfl]
      have e : s.extract s.size s.size = ⟨#[]⟩ := by
        apply ByteArray.ext
        rw [ByteArray.data_extract]
        simp
      rw [e]
      exact empty_some
  | succ d ih =>
    intro k j h1 h2 hk
    obtain ⟨k, rfl⟩ : ∃ m, k = m + 1 := ⟨k - 1, by omega⟩
    simp only [tenterhooklaw06_ScanParts.l0]
    have hq := f3 (a + j) (by omega) (by omega)
    have hn := ih k (j + 1) (by omega) (by omega) (by omega)
    have hn : tenterhooklaw06_ScanParts.l0 k c true (s.extract a s.size) (s.extract a (F (qDelim c) s a)) (s.extract (G (qDelim c) s a) s.size) (wrap64 ((j : Int) + 1)) = some true := by
      rw [w64 (by omega) (by omega)]; exact hn
    rw [if_pos (by omega), if_pos (by omega), bt_ex s a _ j (by omega) f2]
    by_cases h32 : c = 32
    · have hq : ¬ bt s ((a + j : Nat) : Int) ≤ 32 := of_decide_eq_false (qD32 hq h32)
      rw [if_neg (by omega), if_pos h32, if_neg (by omega)]
      exact hn
    · rw [if_neg (beq_eq_false_iff_ne.1 (qDne hq h32)), if_neg h32]
      exact hn

theorem ScanParts : tenterhooklaw06_ScanParts.Pure := by
  intro s i c hs _ hc
  have hcb : 0 ≤ c ∧ c ≤ 255 := by
    simp only [Lit.wf, Bool.and_eq_true, decide_eq_true_eq] at hc
    exact hc
  refine ⟨s.size + 10, ?_⟩
  unfold tenterhooklaw06_ScanParts.f
  rw [awake_eq _ (by omega)]
  simp only [Option.bind_some]
  by_cases hb : (s.size : Int) > 1000
  · rw [if_pos hb]
  · rw [if_neg hb, left_eq, w64 hcb.1 (by omega), parse_eq s (by omega) i c _ (by omega)]
    simp only [Option.bind_some]
    rw [left_eq, At_nat _ _ (G_le _ _ _ (At_le s i))]
    simp only [Option.bind_some]
    have := F_spec (qDelim c) s (At s i) (At_le s i)
    exact parts_loop s (by omega) c hcb.1 hcb.2 (At s i) (At_le s i) _ _ 0 (by omega) rfl (by omega)

end Go.Proofs.Ytekfjpnfhgbalaa.Pure
