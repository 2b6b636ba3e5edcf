/- Of any text, as far as it has come: word, parse, skip, left, capitals and lines are what the reference says. -/
import Derived.Test.YtekfjpnfhgbalaaP8
import Derived.Test.YtekfjpnfhgbalaaQ2
import Derived.Lib.IndexLaws
namespace Go.Proofs.Ytekfjpnfhgbalaa.Pure
open Go.RowKit Go.Proofs.Ytekfjpnfhgbalaa.P Go.Proofs.YtekfjpnfhgbalaaW.PrintWords Go.Proofs.YtekfjpnfhgbalaaW.PrintLast Go.Proofs.YtekfjpnfhgbalaaW.PrintMore
set_option linter.unusedVariables false

theorem rat_eq (s : ByteArray) (i : Int) : tenterhookref06_at.f s i = some (At s i : Int) := by
  unfold tenterhookref06_at.f At mx mn
  congr 1
  split <;> split <;> omega
theorem ris_eq (d c : Int) (h0 : 0 ≤ c) (h1 : c ≤ 255) : tenterhookref06_is.f c d = some (qDelim d c) := by
  unfold tenterhookref06_is.f qDelim
  rw [w64 h0 (by omega)]
  by_cases h : c = d
  · rw [if_pos h]
    by_cases h2 : d = 32
    · rw [if_pos h2]; simp; omega
    · rw [if_neg h2]; simp [h]
  · rw [if_neg h]
    by_cases h2 : d = 32
    · rw [if_pos h2, if_pos h2]
    · rw [if_neg h2, if_neg h2]; simp [h]
theorem rparse_l0 (s : ByteArray) (hs : s.size ≤ 140737488355328) (d i : Int) (a : Nat) :
    ∀ (n k j : Nat), a ≤ j → j ≤ s.size → s.size - j = n → n < k →
      tenterhookref06_Parse.l0 k d (a : Int) (j : Int) s i = some (s.extract a (F (qDelim d) s j), s, ((if F (qDelim d) s j < s.size then F (qDelim d) s j + 1 else s.size : Nat) : Int)) := by
  intro n
  induction n with
  | zero =>
    intro k j h0 h1 h2 hk
    obtain ⟨k, rfl⟩ : ∃ m, k = m + 1 := ⟨k - 1, by omega⟩
    simp only [tenterhookref06_Parse.l0]
    have hj : j = s.size := by omega
    subst hj
    rw [if_neg (by omega), if_pos (by omega), if_pos (by omega), F_hit (Nat.le_refl _) (by omega), if_neg (by omega)]
    simp
  | succ n ih =>
    intro k j h0 h1 h2 hk
    obtain ⟨k, rfl⟩ : ∃ m, k = m + 1 := ⟨k - 1, by omega⟩
    simp only [tenterhookref06_Parse.l0]
    have hr := bt_range s (j : Int)
    rw [if_pos (by omega), if_pos (by omega), ris_eq d _ hr.1 hr.2]
    simp only [Option.bind_some]
    by_cases hq : qDelim d (bt s (j : Int)) = true
    · rw [if_pos hq, if_pos (by omega), if_pos (by omega), if_pos (by omega), F_hit h1 (fun _ => hq), if_pos (by omega), w64 (by omega) (by omega)]
      simp
    · rw [if_neg hq, w64 (by omega) (by omega)]
      have := ih k (j + 1) (by omega) (by omega) (by omega) (by omega)
      rw [F_step (by omega) (by simpa using hq)]
      simpa using this
theorem rparse_eq (s : ByteArray) (hs : s.size ≤ 140737488355328) (i d : Int) (k : Nat) (hk : s.size < k) : tenterhookref06_Parse.f k s i d = some (s.extract (At s i) (F (qDelim d) s (At s i)), s, ((G (qDelim d) s (At s i) : Nat) : Int)) := by
  unfold tenterhookref06_Parse.f
  rw [rat_eq]
  simp only [Option.bind_some]
  rw [rparse_l0 s hs d i (At s i) _ k (At s i) (Nat.le_refl _) (At_le s i) rfl (by omega)]
  rfl
theorem rskip_l0 (s : ByteArray) (hs : s.size ≤ 140737488355328) (i : Int) :
    ∀ (n k j : Nat), j ≤ s.size → s.size - j = n → n < k → tenterhookref06_Skip.l0 k (j : Int) s i = some (s, ((F qFull s j : Nat) : Int)) := by
  intro n
  induction n with
  | zero =>
    intro k j h1 h2 hk
    obtain ⟨k, rfl⟩ : ∃ m, k = m + 1 := ⟨k - 1, by omega⟩
    simp only [tenterhookref06_Skip.l0]
    rw [if_neg (by omega), F_hit h1 (by omega)]
  | succ n ih =>
    intro k j h1 h2 hk
    obtain ⟨k, rfl⟩ : ∃ m, k = m + 1 := ⟨k - 1, by omega⟩
    simp only [tenterhookref06_Skip.l0]
    rw [if_pos (by omega), if_pos (by omega)]
    by_cases hq : bt s (j : Int) ≤ 32
    · rw [if_pos hq, w64 (by omega) (by omega), F_step (by omega) (by unfold qFull; exact decide_eq_false (by omega))]
      exact ih k (j + 1) (by omega) (by omega) (by omega)
    · rw [if_neg hq, F_hit h1 (fun _ => by unfold qFull; exact decide_eq_true (by omega))]
theorem rskip_eq (s : ByteArray) (hs : s.size ≤ 140737488355328) (i : Int) (k : Nat) (hk : s.size < k) : tenterhookref06_Skip.f k s i = some (s, ((F qFull s (At s i) : Nat) : Int)) := by
  unfold tenterhookref06_Skip.f
  rw [rat_eq]
  simp only [Option.bind_some]
  exact rskip_l0 s hs i _ k (At s i) (At_le s i) rfl (by omega)
theorem rword_eq (s : ByteArray) (hs : s.size ≤ 140737488355328) (i : Int) (k : Nat) (hk : s.size < k) :
    tenterhookref06_Word.f k s i = some (s.extract (F qFull s (At s i)) (F qEmpty s (F qFull s (At s i))), s, ((G qEmpty s (F qFull s (At s i)) : Nat) : Int)) := by
  unfold tenterhookref06_Word.f
  rw [rskip_eq s hs i k hk]
  simp only [Option.bind_some]
  have := F_spec qFull s (At s i) (At_le s i)
  rw [rparse_eq s hs _ 32 k hk, At_nat _ _ this.2.1, qDelim32]
  rfl
theorem rleft_eq (s : ByteArray) (i : Int) : tenterhookref06_Left.f s i = some (s.extract (At s i) s.size) := by
  have := At_le s i
  unfold tenterhookref06_Left.f
  rw [rat_eq]
  simp only [Option.bind_some]
  rw [if_pos (by omega), if_pos (by omega)]
  simp

/-! ### lines -/
def q10 (c : Int) : Bool := decide (c = 10)
theorem lk (t : ByteArray) (k : Nat) (h : k < t.size) : t.data.toList[k]? = some 10 ↔ bt t (k : Int) = 10 := by
  have e : t.data.toList[k]? = some (t[k]'h) := by
    rw [Array.getElem?_toList]
    exact Array.getElem?_eq_getElem h
  rw [e]
  unfold bt
  rw [dif_pos (show ((k : Nat) : Int).toNat < t.size by simpa using h)]
  simp only [Int.toNat_natCast, Option.some.injEq]
  constructor
  · intro h; rw [h]; rfl
  · intro h
    apply UInt8.toNat_inj.1
    have : (10 : UInt8).toNat = 10 := rfl
    omega
theorem lk_none (t : ByteArray) (k : Nat) (h : ¬ k < t.size) : t.data.toList[k]? = none := by
  rw [Array.getElem?_toList]
  exact Array.getElem?_eq_none (by show t.size ≤ k; omega)
theorem idx_F (s : ByteArray) (a : Nat) (ha : a ≤ s.size) :
    (∃ o : Nat, Lib.indexByte (s.extract a s.size).data.toList 10 = (o : Int) ∧ F q10 s a = a + o ∧ a + o < s.size) ∨ (Lib.indexByte (s.extract a s.size).data.toList 10 = -1 ∧ F q10 s a = s.size) := by
  have hz : (s.extract a s.size).size = s.size - a := by rw [size_ex]; omega
  have hg := Lib.indexByte_ge (s.extract a s.size).data.toList 10
  by_cases h : 0 ≤ Lib.indexByte (s.extract a s.size).data.toList 10
  · obtain ⟨o, ho⟩ : ∃ o : Nat, Lib.indexByte (s.extract a s.size).data.toList 10 = (o : Int) := ⟨_, (Int.toNat_of_nonneg h).symm⟩
    obtain ⟨h1, h2⟩ := Lib.indexByte_some ho
    have hlt : o < (s.extract a s.size).size := by
      by_cases hlt : o < (s.extract a s.size).size
      · exact hlt
      · rw [lk_none _ _ hlt] at h1; cases h1
    refine .inl ⟨o, ho, F_eq (by omega) (by omega) (fun j hj1 hj2 => ?_) (fun _ => ?_), by omega⟩
    · obtain ⟨m, rfl⟩ : ∃ m, j = a + m := ⟨j - a, by omega⟩
      have := h2 m (by omega)
      rw [ne_eq, lk _ m (by omega), bt_ex s a s.size m (by omega) (Nat.le_refl _)] at this
      exact decide_eq_false this
    · rw [lk _ o hlt, bt_ex s a s.size o (by omega) (Nat.le_refl _)] at h1
      exact decide_eq_true h1
  · have hm : Lib.indexByte (s.extract a s.size).data.toList 10 = -1 := by omega
    have h2 := Lib.indexByte_none hm
    refine .inr ⟨hm, F_eq ha (Nat.le_refl _) (fun j hj1 hj2 => ?_) (fun h => absurd h (Nat.lt_irrefl _))⟩
    obtain ⟨m, rfl⟩ : ∃ m, j = a + m := ⟨j - a, by omega⟩
    have := h2 m
    rw [ne_eq, lk _ m (by omega), bt_ex s a s.size m (by omega) (Nat.le_refl _)] at this
    exact decide_eq_false this
theorem cutLine_F (s : ByteArray) (a : Nat) (ha : a ≤ s.size) :
    C.cutLine (s.extract a s.size) = if F q10 s a < s.size then (s.extract a (F q10 s a), s.extract (F q10 s a + 1) s.size, true) else (s.extract a s.size, ⟨#[]⟩, false) := by
  have hz : (s.extract a s.size).size = s.size - a := by rw [size_ex]; omega
  unfold C.cutLine
  rcases idx_F s a ha with ⟨o, h1, h2, h3⟩ | ⟨h1, h2⟩
  · rw [h1, h2, if_pos (by omega), if_pos (by omega), ex_ex, hz, ex_ex]
    simp only [Int.toNat_natCast, Nat.add_zero]
    have e1 : min (a + o) s.size = a + o := by omega
    have e2 : min (a + (s.size - a)) s.size = s.size := by omega
    rw [e1, e2]
    rfl
  · rw [h1, h2, if_neg (by omega), if_neg (by omega)]
theorem rlines_l0 (s : ByteArray) (hs : s.size ≤ 1000) :
    ∀ (n m k : Nat) (out : List ByteArray) (a i : Nat), a ≤ i → i ≤ s.size → F q10 s a = F q10 s i → s.size - i = n → n < k → s.size - a ≤ m → out.length + (s.size - a) ≤ 1000 →
      tenterhookref06_Lines.l0 k s out (a : Int) (i : Int) = some (out ++ C.linesB m (s.extract a s.size)) := by
  intro n
  induction n with
  | zero =>
    intro m k out a i h0 h1 hF h2 hk hm ho
    obtain ⟨k, rfl⟩ : ∃ m, k = m + 1 := ⟨k - 1, by omega⟩
    have hi : i = s.size := by omega
    subst hi
    simp only [tenterhookref06_Lines.l0]
    rw [if_neg (by omega), if_pos (by omega), if_pos (by omega), if_pos (by omega)]
    have hc := cutLine_F s a (by omega)
    rw [hF, F_hit (Nat.le_refl _) (by omega), if_neg (by omega)] at hc
    cases m with
    | zero => simp [C.linesB]
    | succ m =>
      simp only [C.linesB]
      rw [hc]
      simp
  | succ n ih =>
    intro m k out a i h0 h1 hF h2 hk hm ho
    obtain ⟨k, rfl⟩ : ∃ m, k = m + 1 := ⟨k - 1, by omega⟩
    simp only [tenterhookref06_Lines.l0]
    rw [if_pos (by omega), if_pos (by omega)]
    by_cases hb : bt s (i : Int) = 10
    · rw [if_pos hb, if_pos (by omega), if_pos (by omega), if_pos (by omega), if_pos (by omega), w64 (by omega) (by omega)]
      have hc := cutLine_F s a (by omega)
      rw [hF, F_hit h1 (fun _ => decide_eq_true hb), if_pos (by omega)] at hc
      obtain ⟨m, rfl⟩ : ∃ m', m = m' + 1 := ⟨m - 1, by omega⟩
      have := ih m k (out ++ [s.extract a i]) (i + 1) (i + 1) (Nat.le_refl _) (by omega) rfl (by omega) (by omega) (by omega) (by simp; omega)
      simp only [C.linesB]
      rw [hc]
      simpa using this
    · rw [if_neg hb, w64 (by omega) (by omega)]
      exact ih m k out a (i + 1) (by omega) (by omega) (by rw [hF]; exact F_step (by omega) (decide_eq_false hb)) (by omega) (by omega) hm ho
theorem ex_all (s : ByteArray) : s.extract 0 s.size = s := by
  apply ByteArray.ext
  rw [ByteArray.data_extract]
  simp
theorem rlines_eq (s : ByteArray) (hs : s.size ≤ 1000) (k : Nat) (hk : s.size < k) : tenterhookref06_Lines.f k s = some (C.linesB s.size s) := by
  have := rlines_l0 s hs s.size s.size k [] 0 0 (Nat.le_refl _) (Nat.zero_le _) rfl (by omega) hk (by omega) (by simp; omega)
  rw [ex_all] at this
  exact this
theorem texts_l0 (l : List ByteArray) (hl : l.length ≤ 2000) : ∀ (n k i : Nat), i ≤ l.length → l.length - i = n → n < k → tenterhookref06_Texts.l0 k l l (i : Int) = some true := by
  intro n
  induction n with
  | zero =>
    intro k i h1 h2 hk
    obtain ⟨k, rfl⟩ : ∃ m, k = m + 1 := ⟨k - 1, by omega⟩
    simp only [tenterhookref06_Texts.l0]
    rw [if_neg (by omega)]
  | succ n ih =>
    intro k i h1 h2 hk
    obtain ⟨k, rfl⟩ : ∃ m, k = m + 1 := ⟨k - 1, by omega⟩
    simp only [tenterhookref06_Texts.l0]
    rw [if_pos (by omega), if_pos (by omega), if_pos (by omega), if_pos trivial, w64 (by omega) (by omega)]
    exact ih k (i + 1) (by omega) (by omega) (by omega)
theorem linesB_len : ∀ (k : Nat) (s : ByteArray), (C.linesB k s).length ≤ k + 1
  | 0, s => by simp [C.linesB]
  | k + 1, s => by
    simp only [C.linesB]
    have := linesB_len k (C.cutLine s).2.1
    split <;> simp <;> omega
theorem texts_eq (l : List ByteArray) (hl : l.length ≤ 2000) (k : Nat) (hk : l.length < k) : tenterhookref06_Texts.f k l l = some true := by
  unfold tenterhookref06_Texts.f
  rw [if_pos rfl]
  exact texts_l0 l hl _ k 0 (Nat.zero_le _) rfl (by omega)

theorem ScanIs (s : ByteArray) (i c : Int) : ∃ k, tenterhooklaw06_ScanIs.f k s i c = some true := by
  refine ⟨3000, ?_⟩
  unfold tenterhooklaw06_ScanIs.f
  rw [awake_eq _ (by omega)]
  simp only [Option.bind_some]
  by_cases hb : (s.size : Int) > 1000
  · rw [if_pos hb]
  · rw [if_neg hb]
    have hs : s.size ≤ 140737488355328 := by omega
    have hk : s.size < 3000 := by omega
    have hl := linesB_len s.size s
    simp only [tenterhooklaw06_ours.f, Option.bind_some, word_eq s hs i 3000 hk, rword_eq s hs i 3000 hk, parse_eq s hs i c 3000 hk, rparse_eq s hs i c 3000 hk, skip_eq s hs i 3000 hk, rskip_eq s hs i 3000 hk, left_eq, rleft_eq, beq_self_eq_true, Bool.and_self, if_true]
    have hU : scan_Upper.f s = some (strOfNums ((List.range s.size).map fun j : Nat => C.upper (bt s (j : Int)))) := by unfold scan_Upper.f; rw [if_pos hs]
    have hV : tenterhookref06_Upper.f s = some (strOfNums ((List.range s.size).map fun j : Nat => C.upper (bt s (j : Int)))) := by unfold tenterhookref06_Upper.f; rw [if_pos hs]
    have hL : scan_Lines.f s = some (C.linesB s.size s) := by unfold scan_Lines.f; rw [if_pos (by omega)]
    rw [hU, hV]
    simp only [Option.bind_some, if_true]
    rw [hL, rlines_eq s (by omega) 3000 hk]
    simp only [Option.bind_some]
    rw [texts_eq _ (by omega) 3000 (by omega)]
    rfl
end Go.Proofs.Ytekfjpnfhgbalaa.Pure
