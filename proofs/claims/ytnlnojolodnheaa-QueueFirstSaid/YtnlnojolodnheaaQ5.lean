/-
  The law's own helpers: lined.
-/
import Derived.Test.YtnlnojolodnheaaQ4
import Derived.Test.YtnlnojolodnheaaP15
namespace Go.Proofs.Ytnlnojolodnheaa.P
open Go.RowKit Go.Proofs.YtnlnojolodnheaaX Go.Proofs.YtnlnojolodnheaaF Go.Proofs.YtnlnojolodnheaaW.PrintWords Go.Proofs.YtnlnojolodnheaaW.PrintLast Go.Proofs.YtnlnojolodnheaaW.PrintMore
set_option linter.unusedVariables false
theorem lined_l0 (n : Int) (l : List S60) (hl : l.length ≤ 1000000) : ∀ (d k j : Nat) (acc : List S34), j ≤ l.length → l.length - j = d → d < k → acc.length ≤ j → tenterhooklaw16_lined.l0 k (j : Int) n l n acc = some (n, acc ++ (l.drop j).map t34) := by
  intro d
  induction d with
  | zero =>
    intro k j acc h1 h2 hk ha
    obtain ⟨k, rfl⟩ : ∃ m, k = m + 1 := ⟨k - 1, by omega⟩
    simp only [tenterhooklaw16_lined.l0]
    rw [if_neg (by omega), List.drop_of_length_le (by omega)]
    simp
  | succ d ih =>
    intro k j acc h1 h2 hk ha
    obtain ⟨k, rfl⟩ : ∃ m, k = m + 1 := ⟨k - 1, by omega⟩
    simp only [tenterhooklaw16_lined.l0]
    rw [if_pos (by omega), if_pos (by omega), if_pos (by omega), w64 (by omega) (by omega), rd60_get l j (by omega)]
    have := ih k (j + 1) (acc ++ [⟨l[j].f0, l[j].f1, l[j].f2⟩]) (by omega) (by omega) (by omega) (by simp; omega)
    rw [List.drop_eq_getElem_cons (by omega), List.map_cons]
    rw [List.append_assoc] at this
    exact this
theorem lined_eq (n : Int) (l : List S60) (hl : l.length ≤ 1000000) (k : Nat) (hk : l.length < k) : tenterhooklaw16_lined.f k n l = some (n, l.map t34) := by
  have := lined_l0 n l hl l.length k 0 [] (Nat.zero_le _) rfl hk (Nat.le_refl _)
  simpa [tenterhooklaw16_lined.f] using this
end Go.Proofs.Ytnlnojolodnheaa.P
