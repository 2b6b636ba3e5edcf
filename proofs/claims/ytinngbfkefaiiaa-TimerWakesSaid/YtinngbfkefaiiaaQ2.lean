/-
  The law's own helpers: naps, slept, Same; masks.
-/
import Derived.Test.YtinngbfkefaiiaaQ1
import Derived.Laws.Bits128
namespace Go.Proofs.Ytinngbfkefaiiaa.P
open Go.RowKit Go.Proofs.YtinngbfkefaiiaaX Go.Proofs.YtinngbfkefaiiaaW.PrintWords Go.Proofs.YtinngbfkefaiiaaW.PrintLast Go.Proofs.YtinngbfkefaiiaaW.PrintMore
set_option linter.unusedVariables false
def t49 (x : S61) : S49 := ⟨x.f0, x.f1⟩
def t61 (x : S49) : S61 := ⟨x.f0, x.f1⟩
theorem naps_l0 (l : List S61) (hl : l.length ≤ 1000000) : ∀ (d k j : Nat) (acc : List S49), j ≤ l.length → l.length - j = d → d < k → acc.length ≤ j → tenterhooklaw17_naps.l0 k l acc (j : Int) = some (acc ++ (l.drop j).map t49) := by
  intro d
  induction d with
  | zero =>
    intro k j acc h1 h2 hk ha
    obtain ⟨k, rfl⟩ : ∃ m, k = m + 1 := ⟨k - 1, by omega⟩
    simp only [tenterhooklaw17_naps.l0]
    rw [if_neg (by omega), List.drop_of_length_le (by omega)]
    simp
  | succ d ih =>
    intro k j acc h1 h2 hk ha
    obtain ⟨k, rfl⟩ : ∃ m, k = m + 1 := ⟨k - 1, by omega⟩
    simp only [tenterhooklaw17_naps.l0]
    rw [if_pos (by omega), if_pos (by omega), if_pos (by omega), w64 (by omega) (by omega), rd61_get l j (by omega)]
    have := ih k (j + 1) (acc ++ [⟨l[j].f0, l[j].f1⟩]) (by omega) (by omega) (by omega) (by simp; omega)
    rw [List.drop_eq_getElem_cons (by omega), List.map_cons]
    rw [List.append_assoc] at this
    exact this
theorem naps_eq (l : List S61) (hl : l.length ≤ 1000000) (k : Nat) (hk : l.length < k) : tenterhooklaw17_naps.f k l = some (l.map t49) := by
  have := naps_l0 l hl l.length k 0 [] (Nat.zero_le _) rfl hk (Nat.le_refl _)
  simpa [tenterhooklaw17_naps.f] using this
theorem slept_l0 (l : List S49) (hl : l.length ≤ 1000000) : ∀ (d k j : Nat) (acc : List S61), j ≤ l.length → l.length - j = d → d < k → acc.length ≤ j → tenterhooklaw17_slept.l0 k l acc (j : Int) = some (acc ++ (l.drop j).map t61) := by
  intro d
  induction d with
  | zero =>
    intro k j acc h1 h2 hk ha
    obtain ⟨k, rfl⟩ : ∃ m, k = m + 1 := ⟨k - 1, by omega⟩
    simp only [tenterhooklaw17_slept.l0]
    rw [if_neg (by omega), List.drop_of_length_le (by omega)]
    simp
  | succ d ih =>
    intro k j acc h1 h2 hk ha
    obtain ⟨k, rfl⟩ : ∃ m, k = m + 1 := ⟨k - 1, by omega⟩
    simp only [tenterhooklaw17_slept.l0]
    rw [if_pos (by omega), if_pos (by omega), if_pos (by omega), w64 (by omega) (by omega), rd_get l j (by omega)]
    have := ih k (j + 1) (acc ++ [⟨l[j].f0, l[j].f1⟩]) (by omega) (by omega) (by omega) (by simp; omega)
    rw [List.drop_eq_getElem_cons (by omega), List.map_cons]
    rw [List.append_assoc] at this
    exact this
theorem slept_eq (l : List S49) (hl : l.length ≤ 1000000) (k : Nat) (hk : l.length < k) : tenterhooklaw17_slept.f k l = some (l.map t61) := by
  have := slept_l0 l hl l.length k 0 [] (Nat.zero_le _) rfl hk (Nat.le_refl _)
  simpa [tenterhooklaw17_slept.f] using this
theorem same_l0 (l : List S61) (hl : l.length ≤ 1000000) : ∀ (d k j : Nat), j ≤ l.length → l.length - j = d → d < k → tenterhookref17_Same.l0 k l l (j : Int) = some true := by
  intro d
  induction d with
  | zero =>
    intro k j h1 h2 hk
    obtain ⟨k, rfl⟩ : ∃ m, k = m + 1 := ⟨k - 1, by omega⟩
    simp only [tenterhookref17_Same.l0]
    rw [if_neg (by omega)]
  | succ d ih =>
    intro k j h1 h2 hk
    obtain ⟨k, rfl⟩ : ∃ m, k = m + 1 := ⟨k - 1, by omega⟩
    simp only [tenterhookref17_Same.l0]
    rw [if_pos (by omega), if_pos (by omega), if_pos (by omega), if_neg (by simp), w64 (by omega) (by omega)]
    exact ih k (j + 1) (by omega) (by omega) (by omega)
theorem same_eq (l : List S61) (hl : l.length ≤ 1000000) (k : Nat) (hk : l.length < k) : tenterhookref17_Same.f k l l = some true := by
  unfold tenterhookref17_Same.f
  rw [if_pos rfl]
  exact same_l0 l hl l.length k 0 (Nat.zero_le _) rfl hk
theorem and_mask (n : Int) (m : Nat) (hm : m < 9223372036854775808) : 0 ≤ Go.bits .and .i64 n (m : Int) ∧ Go.bits .and .i64 n (m : Int) ≤ m := by
  have hle : (BitVec.ofInt 64 n &&& BitVec.ofInt 64 (m : Int)).toNat ≤ m := by
    rw [BitVec.toNat_and]
    refine Nat.le_trans Nat.and_le_right ?_
    rw [BitVec.toNat_ofInt]
    omega
  have e : Go.bits .and .i64 n (m : Int) = ((BitVec.ofInt 64 n &&& BitVec.ofInt 64 (m : Int)).toNat : Int) := by
    show IntKind.i64.wrap ((BitVec.ofInt 64 n &&& BitVec.ofInt 64 (m : Int)).toNat : Nat) = _
    rw [IntKind.wrap_i64]
    omega
  rw [e]
  omega
theorem and_maskI (n m : Int) (h0 : 0 ≤ m) (h1 : m < 9223372036854775808) : 0 ≤ Go.bits .and .i64 n m ∧ Go.bits .and .i64 n m ≤ m := by
  obtain ⟨q, rfl⟩ := Int.eq_ofNat_of_zero_le h0
  exact and_mask n q (by omega)
theorem split_take {a b : Int} (hab : a ≤ b) (l : List S49) : l.takeWhile (dueP b) = l.takeWhile (dueP a) ++ (l.drop (l.takeWhile (dueP a)).length).takeWhile (dueP b) := by
  induction l with
  | nil => rfl
  | cons x l ih =>
    by_cases h : x.f1 ≤ a
    · have h2 : x.f1 ≤ b := by omega
      rw [List.takeWhile_cons_of_pos (by simpa [dueP] using h2), List.takeWhile_cons_of_pos (p := dueP a) (by simpa [dueP] using h)]
      simp only [List.length_cons, List.drop_succ_cons, List.cons_append]
      rw [← ih]
    · rw [List.takeWhile_cons_of_neg (p := dueP a) (by simpa [dueP] using h)]
      rfl
end Go.Proofs.Ytinngbfkefaiiaa.P
