/-
  Plain facts on texts: the first place of which something holds; what cut, Skip, Parse, Word come to.
-/
import Derived.Test.YtekfjpnfhgbalaaP3
namespace Go.Proofs.Ytekfjpnfhgbalaa.P
open Go.RowKit Go.Proofs.YtekfjpnfhgbalaaW.PrintWords Go.Proofs.YtekfjpnfhgbalaaW.PrintLast

/-! ### texts -/
theorem size_ex (s : ByteArray) (a b : Nat) : (s.extract a b).size = min b s.size - a := by simp [ByteArray.size_extract]
theorem bt_ex (s : ByteArray) (a b j : Nat) (hj : a + j < b) (hb : b ≤ s.size) : bt (s.extract a b) (j : Int) = bt s ((a + j : Nat) : Int) := by
  have h1 : j < (s.extract a b).size := by rw [size_ex]; omega
  have h2 : a + j < s.size := by omega
  have e : ((a + j : Nat) : Int).toNat = a + j := Int.toNat_natCast _
  unfold bt
  rw [dif_pos (show ((j : Nat) : Int).toNat < (s.extract a b).size by simpa using h1), dif_pos (show ((a + j : Nat) : Int).toNat < s.size by rw [e]; exact h2)]
  simp only [e, Int.toNat_natCast, ByteArray.getElem_extract]
theorem ex_ex (s : ByteArray) (a b c d : Nat) : (s.extract a b).extract c d = s.extract (a + c) (min (a + d) b) := by
  apply ByteArray.ext
  rw [ByteArray.data_extract, ByteArray.data_extract, ByteArray.data_extract, Array.extract_extract]

/-- The first place from a on of which q holds; else the end. -/
def fst (q : Int → Bool) (s : ByteArray) : Nat → Nat → Nat
  | 0, a => a
  | d + 1, a => if q (bt s (a : Int)) = true then a else fst q s d (a + 1)
def F (q : Int → Bool) (s : ByteArray) (a : Nat) : Nat := fst q s (s.size - a) a
/-- Behind it. -/
def G (q : Int → Bool) (s : ByteArray) (a : Nat) : Nat := if F q s a < s.size then F q s a + 1 else s.size

theorem fst_spec (q : Int → Bool) (s : ByteArray) : ∀ (d a : Nat), a ≤ fst q s d a ∧ fst q s d a ≤ a + d ∧ (∀ j, a ≤ j → j < fst q s d a → q (bt s (j : Int)) = false) ∧ (fst q s d a < a + d → q (bt s (fst q s d a : Int)) = true)
  | 0, a => by simp [fst]; omega
  | d + 1, a => by
    simp only [fst]
    by_cases h : q (bt s (a : Int)) = true
    · rw [if_pos h]
      exact ⟨Nat.le_refl _, by omega, fun j h1 h2 => by omega, fun _ => h⟩
    · rw [if_neg h]
      obtain ⟨h1, h2, h3, h4⟩ := fst_spec q s d (a + 1)
      refine ⟨by omega, by omega, fun j hj1 hj2 => ?_, fun hlt => h4 (by omega)⟩
      by_cases e : j = a
      · subst e; simpa using h
      · exact h3 j (by omega) hj2
theorem F_spec (q : Int → Bool) (s : ByteArray) (a : Nat) (ha : a ≤ s.size) : a ≤ F q s a ∧ F q s a ≤ s.size ∧ (∀ j, a ≤ j → j < F q s a → q (bt s (j : Int)) = false) ∧ (F q s a < s.size → q (bt s (F q s a : Int)) = true) := by
  obtain ⟨h1, h2, h3, h4⟩ := fst_spec q s (s.size - a) a
  unfold F
  exact ⟨h1, by omega, h3, fun h => h4 (by omega)⟩
theorem F_eq {q : Int → Bool} {s : ByteArray} {a n : Nat} (ha : a ≤ n) (hn : n ≤ s.size) (h1 : ∀ j, a ≤ j → j < n → q (bt s (j : Int)) = false) (h2 : n < s.size → q (bt s (n : Int)) = true) : F q s a = n := by
  obtain ⟨g1, g2, g3, g4⟩ := F_spec q s a (by omega)
  rcases Nat.lt_trichotomy (F q s a) n with h | h | h
  · have := h1 _ g1 h
    rw [g4 (by omega)] at this
    cases this
  · exact h
  · have := g3 n ha h
    rw [h2 (by omega)] at this
    cases this
theorem F_step {q : Int → Bool} {s : ByteArray} {a : Nat} (ha : a < s.size) (h : q (bt s (a : Int)) = false) : F q s a = F q s (a + 1) := by
  obtain ⟨g1, g2, g3, g4⟩ := F_spec q s (a + 1) (by omega)
  refine F_eq (by omega) g2 (fun j h1 h2 => ?_) g4
  by_cases e : j = a
  · subst e; exact h
  · exact g3 j (by omega) h2
theorem F_hit {q : Int → Bool} {s : ByteArray} {a : Nat} (ha : a ≤ s.size) (h : a < s.size → q (bt s (a : Int)) = true) : F q s a = a := F_eq (Nat.le_refl _) ha (fun j _ _ => by omega) h
theorem G_le (q : Int → Bool) (s : ByteArray) (a : Nat) (ha : a ≤ s.size) : G q s a ≤ s.size := by
  unfold G
  have := F_spec q s a ha
  split <;> omega

/-! ### the functions -/
def At (s : ByteArray) (i : Int) : Nat := (mx 0 (mn i (s.size : Int))).toNat
theorem At_le (s : ByteArray) (i : Int) : At s i ≤ s.size := by unfold At mx mn; split <;> split <;> omega
theorem At_nat (s : ByteArray) (a : Nat) (h : a ≤ s.size) : At s (a : Int) = a := by unfold At mx mn; split <;> split <;> omega
theorem in_eq (s : ByteArray) (i : Int) : scan_Src_in.f s i = some (At s i : Int) := by
  unfold scan_Src_in.f At mx mn
  congr 1
  split <;> split <;> omega
theorem left_eq (s : ByteArray) (i : Int) : scan_Left.f s i = some (s.extract (At s i) s.size) := by
  have := At_le s i
  unfold scan_Left.f
  rw [in_eq]
  simp only [Option.bind_some]
  rw [if_pos (by omega), if_pos (by omega)]
  simp
theorem w64 {x : Int} (h0 : 0 ≤ x) (h1 : x ≤ 140737488355329) : wrap64 x = x := by unfold wrap64; omega

/-- A predicate on bytes that answers. -/
def Tells (p : Int → Option Bool) (q : Int → Bool) : Prop := ∀ c, 0 ≤ c → c ≤ 255 → p c = some (q c)

theorem cut_l0 {p : Int → Option Bool} {q : Int → Bool} (hp : Tells p q) (s : ByteArray) (hs : s.size ≤ 140737488355328) (i : Int) :
    ∀ (d k j : Nat), At s i + j ≤ s.size → s.size - (At s i + j) = d → d < k →
      scan_Src_cut.l0 p k (s.extract (At s i) s.size) ((s.extract (At s i) s.size).size : Int) (j : Int) s i = some (s.extract (At s i) (F q s (At s i + j)), s, ((if F q s (At s i + j) < s.size then F q s (At s i + j) + 1 else s.size : Nat) : Int)) := by
  intro d
  induction d with
  | zero =>
    intro k j h1 h2 hk
    obtain ⟨k, rfl⟩ : ∃ m, k = m + 1 := ⟨k - 1, by omega⟩
    simp only [scan_Src_cut.l0]
    rw [if_neg (by rw [size_ex]; omega), F_hit (by omega) (by omega), if_neg (by omega)]
    have e : At s i + j = s.size := by omega
    rw [e]
  | succ d ih =>
    intro k j h1 h2 hk
    obtain ⟨k, rfl⟩ : ∃ m, k = m + 1 := ⟨k - 1, by omega⟩
    have hz : (s.extract (At s i) s.size).size = s.size - At s i := by rw [size_ex]; omega
    simp only [scan_Src_cut.l0]
    have hr := bt_range (s.extract (At s i) s.size) (j : Int)
    rw [if_pos (by omega), if_pos (by omega), if_pos (by omega), hp _ hr.1 hr.2]
    simp only [Option.bind_some]
    rw [bt_ex s (At s i) s.size j (by omega) (Nat.le_refl _)]
    by_cases hq : q (bt s ((At s i + j : Nat) : Int)) = true
    · rw [if_pos hq, if_pos (by omega), in_eq]
      simp only [Option.bind_some]
      rw [F_hit (by omega) (fun _ => hq), if_pos (by omega), ex_ex, w64 (x := (At s i : Int) + (j : Int)) (by omega) (by omega), w64 (by omega) (by omega)]
      congr 2
      · congr 1; simp; omega
    · rw [if_neg hq, w64 (by omega) (by omega)]
      have := ih k (j + 1) (by omega) (by omega) (by omega)
      rw [F_step (by omega) (by simpa using hq)]
      simpa [Nat.add_assoc] using this
theorem cut_eq {p : Int → Option Bool} {q : Int → Bool} (hp : Tells p q) (s : ByteArray) (hs : s.size ≤ 140737488355328) (i : Int) (k : Nat) (hk : s.size < k) :
    scan_Src_cut.f p k s i = some (s.extract (At s i) (F q s (At s i)), s, ((G q s (At s i) : Nat) : Int)) := by
  unfold scan_Src_cut.f
  rw [left_eq]
  simp only [Option.bind_some]
  have := cut_l0 hp s hs i (s.size - At s i) k 0 (by have := At_le s i; omega) (by omega) (by omega)
  simpa [G] using this

def qFull (c : Int) : Bool := decide (c > 32)
def qEmpty (c : Int) : Bool := decide (c ≤ 32)
def qDelim (d : Int) (c : Int) : Bool := if d = 32 then decide (c ≤ 32) else c == d
theorem tells_full : Tells scan_full.f qFull := fun _ _ _ => rfl
theorem tells_empty : Tells scan_empty.f qEmpty := fun _ _ _ => rfl
theorem skip_eq (s : ByteArray) (hs : s.size ≤ 140737488355328) (i : Int) (k : Nat) (hk : s.size < k) : scan_Skip.f k s i = some (s, ((F qFull s (At s i) : Nat) : Int)) := by
  unfold scan_Skip.f
  rw [cut_eq tells_full s hs i k hk, in_eq]
  simp only [Option.bind_some]
  have := F_spec qFull s (At s i) (At_le s i)
  rw [size_ex, w64 (by omega) (by omega)]
  congr 2
  omega
theorem parse_eq (s : ByteArray) (hs : s.size ≤ 140737488355328) (i d : Int) (k : Nat) (hk : s.size < k) : scan_Parse.f k s i d = some (s.extract (At s i) (F (qDelim d) s (At s i)), s, ((G (qDelim d) s (At s i) : Nat) : Int)) := by
  unfold scan_Parse.f
  by_cases h : d = 32
  · rw [if_pos h, cut_eq (q := qDelim d) (fun c _ _ => by unfold scan_empty.f qDelim; rw [if_pos h]) s hs i k hk]
    rfl
  · rw [if_neg h, cut_eq (q := qDelim d) (fun c h0 h1 => by unfold isDelim qDelim; rw [if_neg h, w64 h0 (by omega)]) s hs i k hk]
    rfl
theorem word_eq (s : ByteArray) (hs : s.size ≤ 140737488355328) (i : Int) (k : Nat) (hk : s.size < k) :
    scan_Word.f k s i = some (s.extract (F qFull s (At s i)) (F qEmpty s (F qFull s (At s i))), s, ((G qEmpty s (F qFull s (At s i)) : Nat) : Int)) := by
  unfold scan_Word.f
  rw [skip_eq s hs i k hk]
  simp only [Option.bind_some]
  have := F_spec qFull s (At s i) (At_le s i)
  rw [cut_eq tells_empty s hs _ k hk, At_nat _ _ this.2.1]
  rfl
theorem qDelim32 : qDelim 32 = qEmpty := by funext c; simp [qDelim, qEmpty]
end Go.Proofs.Ytekfjpnfhgbalaa.P
