/- Blanks ahead change no word: as many as there are, of whatever kind; nor does what has gone ahead. No condition. -/
import Derived.Test.YtekfjpnfhgbalaaP2
import Derived.Test.YtekfjpnfhgbalaaQ2
import Derived.Laws.BitsAllLaws
namespace Go.Proofs.Ytekfjpnfhgbalaa.Pure
open Go.RowKit Go.Proofs.Ytekfjpnfhgbalaa.P Go.Proofs.YtekfjpnfhgbalaaW.PrintWords Go.Proofs.YtekfjpnfhgbalaaW.PrintLast
set_option linter.unusedVariables false

theorem size_app (a b : ByteArray) : (a ++ b).size = a.size + b.size := ByteArray.size_append
theorem bt_left (a b : ByteArray) (j : Nat) (h : j < a.size) : bt (a ++ b) (j : Int) = bt a (j : Int) := by
  unfold bt
  rw [dif_pos (show ((j : Nat) : Int).toNat < (a ++ b).size by rw [size_app]; simp; omega), dif_pos (show ((j : Nat) : Int).toNat < a.size by simpa using h)]
  simp only [Int.toNat_natCast]
  rw [ByteArray.getElem_append_left h]
theorem bt_right (a b : ByteArray) (j : Nat) (h : j < b.size) : bt (a ++ b) ((a.size + j : Nat) : Int) = bt b (j : Int) := by
  unfold bt
  have e : ((a.size + j : Nat) : Int).toNat = a.size + j := Int.toNat_natCast _
  rw [dif_pos (show ((a.size + j : Nat) : Int).toNat < (a ++ b).size by rw [e, size_app]; omega), dif_pos (show ((j : Nat) : Int).toNat < b.size by simpa using h)]
  simp only [e, Int.toNat_natCast]
  rw [ByteArray.getElem_append_right (by omega)]
  simp
theorem F_app (q : Int → Bool) (a b : ByteArray) (j : Nat) (hj : j ≤ b.size) : F q (a ++ b) (a.size + j) = a.size + F q b j := by
  obtain ⟨f1, f2, f3, f4⟩ := F_spec q b j hj
  refine F_eq (by omega) (by rw [size_app]; omega) (fun i h1 h2 => ?_) (fun h => ?_)
  · obtain ⟨m, rfl⟩ : ∃ m, i = a.size + m := ⟨i - a.size, by omega⟩
    rw [bt_right a b m (by omega)]
    exact f3 m (by omega) (by omega)
  · rw [size_app] at h
    rw [bt_right a b _ (by omega)]
    exact f4 (by omega)
theorem G_app (q : Int → Bool) (a b : ByteArray) (j : Nat) (hj : j ≤ b.size) : G q (a ++ b) (a.size + j) = a.size + G q b j := by
  unfold G
  rw [F_app q a b j hj, size_app]
  split <;> split <;> omega
theorem ex_app (a b : ByteArray) (i j : Nat) (hi : i ≤ b.size) : (a ++ b).extract (a.size + i) (a.size + j) = b.extract i j := by
  apply ByteArray.ext
  rw [ByteArray.data_extract, ByteArray.data_extract, ByteArray.data_append]
  rw [Array.extract_append]
  have e : a.data.size = a.size := rfl
  rw [e, Array.extract_empty_of_size_le_start (by omega)]
  simp
/-- What goes ahead with blanks alone. -/
theorem F_blanks (a b : ByteArray) (h : ∀ j, j < a.size → bt a (j : Int) ≤ 32) : F qFull (a ++ b) 0 = a.size + F qFull b 0 := by
  obtain ⟨f1, f2, f3, f4⟩ := F_spec qFull b 0 (Nat.zero_le _)
  refine F_eq (Nat.zero_le _) (by rw [size_app]; omega) (fun i h1 h2 => ?_) (fun hh => ?_)
  · by_cases hi : i < a.size
    · rw [bt_left a b i hi]
      have := h i hi
      unfold qFull
      exact decide_eq_false (by omega)
    · obtain ⟨m, rfl⟩ : ∃ m, i = a.size + m := ⟨i - a.size, by omega⟩
      rw [bt_right a b m (by omega)]
      exact f3 m (by omega) (by omega)
  · rw [size_app] at hh
    rw [bt_right a b _ (by omega)]
    exact f4 (by omega)
theorem word_eq' (s : ByteArray) (hs : s.size ≤ 140737488355328) (a : Nat) (ha : a ≤ s.size) (k : Nat) (hk : s.size < k) :
    scan_Word.f k s (a : Int) = some (s.extract (F qFull s a) (F qEmpty s (F qFull s a)), s, ((G qEmpty s (F qFull s a) : Nat) : Int)) := by
  rw [word_eq s hs _ k hk, At_nat s a ha]

/-- A blank of a byte, as a text. -/
theorem blank_size (x : Int) : (strOfNums [Go.bits .and .u8 x 31]).size = 1 := by rw [strOfNums_size]; rfl
theorem blank_le (x : Int) (h : 0 ≤ x ∧ x ≤ 255) : bt (strOfNums [Go.bits .and .u8 x 31]) ((0 : Nat) : Int) ≤ 32 := by
  have hb : Go.bits .and .u8 x 31 = ((x.toNat &&& 31 : Nat) : Int) := u8_and x 31 h.1 (by omega) (by omega) (by omega)
  have hn : x.toNat &&& 31 ≤ 31 := Nat.and_le_right
  rw [hb]
  generalize x.toNat &&& 31 = n at hn
  unfold bt
  rw [dif_pos (by rw [strOfNums_size]; simp)]
  simp only [strOfNums, List.map_cons, List.map_nil, Int.toNat_natCast]
  show ((UInt8.ofNat n).toNat : Int) ≤ 32
  rw [UInt8.toNat_ofNat']
  omega
theorem blanks_loop (s : ByteArray) (hs : s.size ≤ 500) (l : List Int) (hl : l.length ≤ 100) (hw : ∀ x ∈ l, (Lit.int .u8 x).wf = true) (hd : ByteArray) (hh : hd.size ≤ 300) :
    ∀ (d k j : Nat) (b : ByteArray), j + d = l.length → b.size = j → (∀ i, i < b.size → bt b (i : Int) ≤ 32) → d + 1000 < k →
      tenterhooklaw06_ScanBlanks.l0 k s l hd true b (j : Int) = some true := by
  intro d
  induction d with
  | zero =>
    intro k j b h1 hb hbl hk
    obtain ⟨k, rfl⟩ : ∃ m, k = m + 1 := ⟨k - 1, by omega⟩
    simp only [tenterhooklaw06_ScanBlanks.l0]
    have W0 := word_eq' s (by omega) 0 (Nat.zero_le _) k (by omega)
    have W1 := word_eq' (b ++ s) (by rw [size_app]; omega) 0 (Nat.zero_le _) k (by rw [size_app]; omega)
    have W2 := word_eq' (hd ++ s) (by rw [size_app]; omega) hd.size (by rw [size_app]; omega) k (by rw [size_app]; omega)
    obtain ⟨f1, f2, f3, f4⟩ := F_spec qFull s 0 (Nat.zero_le _)
    obtain ⟨g1, g2, g3, g4⟩ := F_spec qEmpty s (F qFull s 0) f2
    have hG := G_le qEmpty s (F qFull s 0) f2
    rw [F_blanks b s hbl, F_app _ b s _ f2, G_app _ b s _ f2, ex_app b s _ _ f2] at W1
    rw [show F qFull (hd ++ s) hd.size = hd.size + F qFull s 0 from F_app qFull hd s 0 (Nat.zero_le _), F_app _ hd s _ f2, G_app _ hd s _ f2, ex_app hd s _ _ f2] at W2
    rw [if_neg (by omega), show ((0 : Int)) = ((0 : Nat) : Int) from rfl, W0]
    simp only [Option.bind_some]
    rw [if_pos (by omega), W1]
    simp only [Option.bind_some]
    rw [if_pos (by omega), W2]
    simp only [Option.bind_some, if_true]
    rw [if_pos (by rw [w64 (by omega) (by omega)]; omega), if_pos (by rw [w64 (by omega) (by omega)]; omega), left_eq, At_nat _ _ (by rw [size_app]; omega)]
    simp only [Option.bind_some]
    have e : (hd ++ s).extract hd.size (hd ++ s).size = s := by
      rw [size_app]
      have := ex_app hd s 0 s.size (Nat.zero_le _)
      rw [Nat.add_zero] at this
      rw [this]
      apply ByteArray.ext
      rw [ByteArray.data_extract]
      simp
    rw [e]
    simp
  | succ d ih =>
    intro k j b h1 hb hbl hk
    obtain ⟨k, rfl⟩ : ∃ m, k = m + 1 := ⟨k - 1, by omega⟩
    simp only [tenterhooklaw06_ScanBlanks.l0]
    rw [if_pos (by omega), if_pos (by omega)]
    simp only [Option.bind_some]
    have hz := blank_size (rd l j)
    rw [if_pos (by omega), w64 (by omega) (by omega)]
    refine ih k (j + 1) _ (by omega) (by rw [size_app]; omega) (fun i hi => ?_) (by omega)
    rw [size_app, hz] at hi
    by_cases hlt : i < b.size
    · rw [bt_left b _ i hlt]; exact hbl i hlt
    · obtain rfl : i = b.size := by omega
      have := bt_right b (strOfNums [Go.bits .and .u8 (rd l j) 31]) 0 (by omega)
      rw [Nat.add_zero] at this
      rw [this]
      exact blank_le (rd l j) (by
        have : rd l j ∈ l := by
          unfold rd
          have hj : j < l.length := by omega
          simp [List.getD, hj]
        have := hw _ this
        simp only [Lit.wf, Bool.and_eq_true, decide_eq_true_eq] at this
        exact this)
theorem ScanBlanks : tenterhooklaw06_ScanBlanks.Pure := by
  intro s l hd hs _ _ hw _
  refine ⟨2000, ?_⟩
  unfold tenterhooklaw06_ScanBlanks.f
  rw [awake_eq _ (by omega)]
  simp only [Option.bind_some]
  have hj : ∀ z : Bool, (z = false → s.size ≤ 500 ∧ l.length ≤ 100 ∧ hd.size ≤ 300) → tenterhooklaw06_ScanBlanks.j0 2000 s l hd true z = some true := by
    intro z hz
    show tenterhooklaw06_ScanBlanks.j0 (1999 + 1) s l hd true z = some true
    simp only [tenterhooklaw06_ScanBlanks.j0]
    cases z with
    | true => simp
    | false =>
      obtain ⟨h1, h2, h3⟩ := hz rfl
      simp only [Bool.false_eq_true, if_false]
      exact blanks_loop s h1 l h2 hw hd h3 l.length 1999 0 _ (by omega) rfl (fun i hi => absurd hi (Nat.not_lt_zero i)) (by omega)
  by_cases h1 : (s.size : Int) > 500
  · rw [if_pos h1]; exact hj _ (by simp)
  · rw [if_neg h1]
    by_cases h2 : (l.length : Int) > 100
    · rw [if_pos h2]; exact hj _ (by simp)
    · rw [if_neg h2]
      refine hj _ (fun h => ?_)
      have := of_decide_eq_false h
      omega
end Go.Proofs.Ytekfjpnfhgbalaa.Pure
