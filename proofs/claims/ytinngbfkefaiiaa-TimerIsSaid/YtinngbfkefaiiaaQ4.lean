/-
  What the reference's Put, Due, Drop, Next come to.
-/
import Derived.Test.YtinngbfkefaiiaaQ3
namespace Go.Proofs.Ytinngbfkefaiiaa.P
open Go.RowKit Go.Proofs.YtinngbfkefaiiaaX Go.Proofs.YtinngbfkefaiiaaW.PrintWords Go.Proofs.YtinngbfkefaiiaaW.PrintLast Go.Proofs.YtinngbfkefaiiaaW.PrintMore
set_option linter.unusedVariables false
theorem ws (j : Nat) (h : j ≤ 1000000) : wrap64 ((j : Int) + 1) = ((j + 1 : Nat) : Int) := by rw [w64 (by omega) (by omega)]; omega
theorem has_l0 (l : List S61) (hl : l.length ≤ 30) (id : Int) : ∀ (d k j : Nat), j ≤ l.length → l.length - j = d → d < k → tenterhookref17_has.l0 k l id (j : Int) = some ((l.drop j).any fun x => x.f0 == id) := by
  intro d
  induction d with
  | zero =>
    intro k j h1 h2 hk
    obtain ⟨k, rfl⟩ : ∃ m, k = m + 1 := ⟨k - 1, by omega⟩
    simp only [tenterhookref17_has.l0]
    rw [if_neg (by omega), List.drop_of_length_le (by omega)]
    rfl
  | succ d ih =>
    intro k j h1 h2 hk
    obtain ⟨k, rfl⟩ : ∃ m, k = m + 1 := ⟨k - 1, by omega⟩
    have hj : j < l.length := by omega
    simp only [tenterhookref17_has.l0]
    rw [if_pos (by omega), if_pos (by omega), rd61_get l j hj, ws j (by omega), List.drop_eq_getElem_cons hj, List.any_cons]
    by_cases e : l[j].f0 = id
    · rw [if_pos e, beq_iff_eq.2 e]; rfl
    · rw [if_neg e, beq_eq_false_iff_ne.2 e, Bool.false_or]
      exact ih k (j + 1) (by omega) (by omega) (by omega)
theorem put_l1 (l : List S61) (hl : l.length ≤ 30) (w : Int) : ∀ (d k j : Nat) (acc : List S61), j ≤ l.length → l.length - j = d → d < k → acc.length ≤ 100 + j → tenterhookref17_Put.l1 k l w acc (j : Int) = some (acc ++ (l.drop j).filter (fun x => decide (x.f1 > w)), true) := by
  intro d
  induction d with
  | zero =>
    intro k j acc h1 h2 hk ha
    obtain ⟨k, rfl⟩ : ∃ m, k = m + 1 := ⟨k - 1, by omega⟩
    simp only [tenterhookref17_Put.l1]
    rw [if_neg (by omega), List.drop_of_length_le (by omega)]
    simp
  | succ d ih =>
    intro k j acc h1 h2 hk ha
    obtain ⟨k, rfl⟩ : ∃ m, k = m + 1 := ⟨k - 1, by omega⟩
    have hj : j < l.length := by omega
    simp only [tenterhookref17_Put.l1]
    rw [if_pos (by omega), if_pos (by omega), rd61_get l j hj, ws j (by omega), List.drop_eq_getElem_cons hj]
    by_cases e : l[j].f1 > w
    · rw [if_pos e, if_pos (by omega), ih k (j + 1) _ (by omega) (by omega) (by omega) (by simp; omega), List.filter_cons_of_pos (by simpa using e), List.append_assoc]
      rfl
    · rw [if_neg e, ih k (j + 1) _ (by omega) (by omega) (by omega) (by omega), List.filter_cons_of_neg (by simpa using e)]
theorem put_l0 (l : List S61) (hl : l.length ≤ 30) (id w : Int) : ∀ (d k j : Nat) (acc : List S61), j ≤ l.length → l.length - j = d → d + 100 < k → acc.length ≤ j →
    tenterhookref17_Put.l0 k l id w acc (j : Int) = some (acc ++ (l.drop j).filter (fun x => decide (x.f1 ≤ w)) ++ [⟨id, w⟩] ++ l.filter (fun x => decide (x.f1 > w)), true) := by
  intro d
  induction d with
  | zero =>
    intro k j acc h1 h2 hk ha
    obtain ⟨k, rfl⟩ : ∃ m, k = m + 1 := ⟨k - 1, by omega⟩
    simp only [tenterhookref17_Put.l0]
    have := put_l1 l hl w l.length k 0 (acc ++ [⟨id, w⟩]) (Nat.zero_le _) rfl (by omega) (by simp; omega)
    rw [if_neg (by omega), if_pos (by omega), List.drop_of_length_le (by omega : l.length ≤ j)]
    rw [List.drop_zero] at this
    rw [List.filter_nil, List.append_nil]
    exact this
  | succ d ih =>
    intro k j acc h1 h2 hk ha
    obtain ⟨k, rfl⟩ : ∃ m, k = m + 1 := ⟨k - 1, by omega⟩
    have hj : j < l.length := by omega
    simp only [tenterhookref17_Put.l0]
    rw [if_pos (by omega), if_pos (by omega), rd61_get l j hj, ws j (by omega), List.drop_eq_getElem_cons hj]
    by_cases e : l[j].f1 ≤ w
    · rw [if_pos e, if_pos (by omega), ih k (j + 1) _ (by omega) (by omega) (by omega) (by simp; omega), List.filter_cons_of_pos (by simpa using e)]
      simp
    · rw [if_neg e, ih k (j + 1) _ (by omega) (by omega) (by omega) (by omega), List.filter_cons_of_neg (by simpa using e)]
theorem due_l0 (l : List S61) (hl : l.length ≤ 30) (t : Int) : ∀ (d k j : Nat) (a : List S61) (b : List Int), j ≤ l.length → l.length - j = d → d < k → a.length ≤ j → b.length ≤ j →
    tenterhookref17_Due.l0 k l t a b (j : Int) = some (a ++ (l.drop j).filter (fun x => decide (x.f1 > t)), b ++ ((l.drop j).filter (fun x => decide (x.f1 ≤ t))).map fun x => x.f0) := by
  intro d
  induction d with
  | zero =>
    intro k j a b h1 h2 hk ha hb
    obtain ⟨k, rfl⟩ : ∃ m, k = m + 1 := ⟨k - 1, by omega⟩
    simp only [tenterhookref17_Due.l0]
    rw [if_neg (by omega), List.drop_of_length_le (by omega)]
    simp
  | succ d ih =>
    intro k j a b h1 h2 hk ha hb
    obtain ⟨k, rfl⟩ : ∃ m, k = m + 1 := ⟨k - 1, by omega⟩
    have hj : j < l.length := by omega
    simp only [tenterhookref17_Due.l0]
    rw [if_pos (by omega), if_pos (by omega), rd61_get l j hj, ws j (by omega), List.drop_eq_getElem_cons hj]
    by_cases e : l[j].f1 > t
    · have e2 : ¬ l[j].f1 ≤ t := by omega
      rw [if_pos e, if_pos (by omega), ih k (j + 1) _ _ (by omega) (by omega) (by omega) (by simp; omega) (by omega), List.filter_cons_of_pos (by simpa using e), List.filter_cons_of_neg (by simpa using e2), List.append_assoc]
      rfl
    · have e2 : l[j].f1 ≤ t := by omega
      rw [if_neg e, if_pos (by omega), ih k (j + 1) _ _ (by omega) (by omega) (by omega) (by omega) (by simp; omega), List.filter_cons_of_neg (by simpa using e), List.filter_cons_of_pos (by simpa using e2), List.append_assoc]
      rfl
theorem drop_l0 (l : List S61) (hl : l.length ≤ 30) (id : Int) : ∀ (d k j : Nat) (a : List S61), j ≤ l.length → l.length - j = d → d < k → a.length ≤ j →
    tenterhookref17_Drop.l0 k l id a (j : Int) = some (a ++ (l.drop j).filter (fun x => !(x.f0 == id)), decide (((a ++ (l.drop j).filter (fun x => !(x.f0 == id))).length : Int) < (l.length : Int))) := by
  intro d
  induction d with
  | zero =>
    intro k j a h1 h2 hk ha
    obtain ⟨k, rfl⟩ : ∃ m, k = m + 1 := ⟨k - 1, by omega⟩
    simp only [tenterhookref17_Drop.l0]
    rw [if_neg (by omega), List.drop_of_length_le (by omega)]
    simp
  | succ d ih =>
    intro k j a h1 h2 hk ha
    obtain ⟨k, rfl⟩ : ∃ m, k = m + 1 := ⟨k - 1, by omega⟩
    have hj : j < l.length := by omega
    simp only [tenterhookref17_Drop.l0]
    rw [if_pos (by omega), if_pos (by omega), rd61_get l j hj, ws j (by omega), List.drop_eq_getElem_cons hj]
    by_cases e : l[j].f0 = id
    · rw [if_pos e, ih k (j + 1) _ (by omega) (by omega) (by omega) (by omega), List.filter_cons_of_neg (by simp [e])]
    · rw [if_neg e, if_pos (by omega), ih k (j + 1) _ (by omega) (by omega) (by omega) (by simp; omega), List.filter_cons_of_pos (by simp [e]), List.append_assoc]
      rfl
theorem same4_l0 (l : List Int) (hl : l.length ≤ 1000000) : ∀ (d k j : Nat), j ≤ l.length → l.length - j = d → d < k → tenterhookref04_Same.l0 k l l (j : Int) = some true := by
  intro d
  induction d with
  | zero =>
    intro k j h1 h2 hk
    obtain ⟨k, rfl⟩ : ∃ m, k = m + 1 := ⟨k - 1, by omega⟩
    simp only [tenterhookref04_Same.l0]
    rw [if_neg (by omega)]
  | succ d ih =>
    intro k j h1 h2 hk
    obtain ⟨k, rfl⟩ : ∃ m, k = m + 1 := ⟨k - 1, by omega⟩
    simp only [tenterhookref04_Same.l0]
    rw [if_pos (by omega), if_pos (by omega), if_pos (by omega), if_pos trivial, ws j (by omega)]
    exact ih k (j + 1) (by omega) (by omega) (by omega)
theorem same4_eq (l : List Int) (hl : l.length ≤ 1000000) (k : Nat) (hk : l.length < k) : tenterhookref04_Same.f k l l = some true := by
  unfold tenterhookref04_Same.f
  rw [if_pos rfl]
  exact same4_l0 l hl l.length k 0 (Nat.zero_le _) rfl hk
end Go.Proofs.Ytinngbfkefaiiaa.P
