/-
  The law's own helpers: line, lined.
-/
import Derived.Test.YtnlnojolodnheaaQ2
import Derived.Test.YtnlnojolodnheaaP11
namespace Go.Proofs.Ytnlnojolodnheaa.P
open Go.RowKit Go.Proofs.YtnlnojolodnheaaX Go.Proofs.YtnlnojolodnheaaF Go.Proofs.YtnlnojolodnheaaW.PrintWords Go.Proofs.YtnlnojolodnheaaW.PrintLast Go.Proofs.YtnlnojolodnheaaW.PrintMore
set_option linter.unusedVariables false
def t60 (x : S34) : S60 := ⟨x.f0, x.f1, x.f2⟩
def t34 (x : S60) : S34 := ⟨x.f0, x.f1, x.f2⟩
theorem line_l0 (n : Int) (l : List S34) (hl : l.length ≤ 1000000) : ∀ (d k j : Nat) (acc : List S60), j ≤ l.length → l.length - j = d → d < k → acc.length ≤ j → tenterhooklaw16_line.l0 k (j : Int) n l n acc = some (n, acc ++ (l.drop j).map t60) := by
  intro d
  induction d with
  | zero =>
    intro k j acc h1 h2 hk ha
    obtain ⟨k, rfl⟩ : ∃ m, k = m + 1 := ⟨k - 1, by omega⟩
    simp only [tenterhooklaw16_line.l0]
    rw [if_neg (by omega), List.drop_of_length_le (by omega)]
    simp
  | succ d ih =>
    intro k j acc h1 h2 hk ha
    obtain ⟨k, rfl⟩ : ∃ m, k = m + 1 := ⟨k - 1, by omega⟩
    simp only [tenterhooklaw16_line.l0]
    rw [if_pos (by omega), if_pos (by omega), if_pos (by omega), w64 (by omega) (by omega), rd34_get l j (by omega)]
    have := ih k (j + 1) (acc ++ [⟨l[j].f0, l[j].f1, l[j].f2⟩]) (by omega) (by omega) (by omega) (by simp; omega)
    rw [List.drop_eq_getElem_cons (by omega), List.map_cons]
    rw [List.append_assoc] at this
    exact this
theorem line_eq (n : Int) (l : List S34) (hl : l.length ≤ 1000000) (k : Nat) (hk : l.length < k) : tenterhooklaw16_line.f k n l = some (n, l.map t60) := by
  have := line_l0 n l hl l.length k 0 [] (Nat.zero_le _) rfl hk (Nat.le_refl _)
  simpa [tenterhooklaw16_line.f] using this
end Go.Proofs.Ytnlnojolodnheaa.P
