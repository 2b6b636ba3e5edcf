/-
  What the reference's functions come to.
-/
import Derived.Test.YtinngbfkefaiiaaP11
import Derived.Test.YtinngbfkefaiiaaQ2
namespace Go.Proofs.Ytinngbfkefaiiaa.P
open Go.RowKit Go.Proofs.YtinngbfkefaiiaaX Go.Proofs.YtinngbfkefaiiaaW.PrintWords Go.Proofs.YtinngbfkefaiiaaW.PrintLast Go.Proofs.YtinngbfkefaiiaaW.PrintMore
set_option linter.unusedVariables false
/-- The first i may be. -/
structure Good (l : List S61) (i : Nat) : Prop where
  may : ∀ j : Nat, j < i → (h : j < l.length) → mayB (t49 l[j]) = true
  ids : ∀ j j' : Nat, j < j' → j' < i → (h : j < l.length) → (h' : j' < l.length) → l[j].f0 ≠ l[j'].f0
  srt : ∀ j : Nat, j + 1 < i → (h : j < l.length) → (h' : j + 1 < l.length) → l[j].f1 ≤ l[j + 1].f1
theorem good_ok (l : List S61) : Good l l.length ↔ Ok (l.map t49) := by
  constructor
  · intro g
    refine ⟨fun x hx => ?_, ?_, (srt_iff _).2 (fun i h => ?_)⟩
    · obtain ⟨i, hi, rfl⟩ := List.mem_iff_getElem.1 hx
      have hi' : i < l.length := by simpa using hi
      rw [List.getElem_map]
      exact g.may i hi' hi'
    · rw [List.pairwise_iff_getElem]
      intro i j hi hj hij
      have hi' : i < l.length := by simpa using hi
      have hj' : j < l.length := by simpa using hj
      rw [List.getElem_map, List.getElem_map]
      exact g.ids i j hij hj' hi' hj'
    · have hi' : i + 1 < l.length := by simpa using h
      rw [List.getElem_map, List.getElem_map]
      exact g.srt i hi' (by omega) hi'
  · intro o
    refine ⟨fun j _ h => ?_, fun j j' h1 h2 h h' => ?_, fun j h1 h h' => ?_⟩
    · exact o.may _ (List.mem_map_of_mem (List.getElem_mem h))
    · have := List.pairwise_iff_getElem.1 o.ids j j' (by simpa using h) (by simpa using h') h1
      rw [List.getElem_map, List.getElem_map] at this
      exact this
    · have := (srt_iff _).1 o.srt j (by simpa using h')
      rw [List.getElem_map, List.getElem_map] at this
      exact this
theorem Good.less {l : List S61} {i i' : Nat} (g : Good l i') (h : i ≤ i') : Good l i :=
  ⟨fun j hj => g.may j (by omega), fun j j' h1 h2 => g.ids j j' h1 (by omega), fun j hj => g.srt j (by omega)⟩
noncomputable def okB (l : List S61) : Bool := @decide (Ok (l.map t49)) (Classical.propDecidable _)
theorem okB_eq (l : List S61) : okB l = saneB (l.map t49) := by
  unfold okB
  cases h : saneB (l.map t49) with
  | true => exact @decide_eq_true _ (Classical.propDecidable _) ((saneB_iff _).1 h)
  | false =>
    refine @decide_eq_false _ (Classical.propDecidable _) (fun o => ?_)
    rw [(saneB_iff _).2 o] at h
    cases h
theorem bad {l : List S61} (h : ¬ Good l l.length) : saneB (l.map t49) = false := by
  cases e : saneB (l.map t49) with
  | false => rfl
  | true => exact absurd ((good_ok l).2 ((saneB_iff _).1 e)) h
theorem good_succ {l : List S61} {i : Nat} (hi : i < l.length) (g : Good l i) (hm : mayB (t49 l[i]) = true) (hq : ∀ q : Nat, q < i → (h : q < l.length) → l[q].f0 ≠ l[i].f0)
    (hs : ∀ p : Nat, p + 1 = i → ∀ h : p < l.length, l[p].f1 ≤ l[i].f1) : Good l (i + 1) := by
  refine ⟨fun q h1 h => ?_, fun q q' h1 h2 h h' => ?_, fun q h1 h h' => ?_⟩
  · rcases Nat.lt_or_eq_of_le (Nat.le_of_lt_succ h1) with h3 | rfl
    · exact g.may q h3 h
    · exact hm
  · rcases Nat.lt_or_eq_of_le (Nat.le_of_lt_succ h2) with h3 | rfl
    · exact g.ids q q' h1 h3 h h'
    · exact hq q h1 h
  · rcases Nat.lt_or_eq_of_le (Nat.le_of_lt_succ h1) with h3 | rfl
    · exact g.srt q h3 h h'
    · exact hs q rfl h
theorem rids (l : List S61) (hl : l.length ≤ 30) (i c : Nat) (hi : i < l.length) (R : Bool) (hbad : (∃ j, ∃ h : j < i, (l[j]'(Nat.lt_trans h hi)).f0 = l[i].f0) → R = false)
    (hnext : (∀ q : Nat, q < i → (h : q < l.length) → l[q].f0 ≠ l[i].f0) → ∀ k, c ≤ k → tenterhookref17_Sane.l0 k l ((i + 1 : Nat) : Int) = some R) :
    ∀ (e j k : Nat), i - j = e → j ≤ i → (∀ q : Nat, q < j → (h : q < l.length) → l[q].f0 ≠ l[i].f0) → e + 1 + c ≤ k → tenterhookref17_Sane.l1 k l (i : Int) (j : Int) = some R := by
  intro e
  induction e with
  | zero =>
    intro j k e1 e2 hq hk
    obtain ⟨k, rfl⟩ : ∃ m, k = m + 1 := ⟨k - 1, by omega⟩
    obtain rfl : j = i := by omega
    have hn := hnext hq k (by omega)
    simp only [tenterhookref17_Sane.l1]
    rw [if_neg (by omega), show wrap64 ((j : Int) + 1) = ((j + 1 : Nat) : Int) by rw [w64 (by omega) (by omega)]; omega]
    exact hn
  | succ e ih =>
    intro j k e1 e2 hq hk
    obtain ⟨k, rfl⟩ : ∃ m, k = m + 1 := ⟨k - 1, by omega⟩
    have hj : j < l.length := by omega
    have hji : j < i := by omega
    have hk' : e + 1 + c ≤ k := by omega
    have he : i - (j + 1) = e := by omega
    simp only [tenterhookref17_Sane.l1]
    rw [if_pos (by omega), if_pos (by omega), if_pos (by omega), if_pos (by omega), if_pos (by omega), rd61_get l j hj, rd61_get l i hi, show wrap64 ((j : Int) + 1) = ((j + 1 : Nat) : Int) by rw [w64 (by omega) (by omega)]; omega]
    by_cases eq : l[j].f0 = l[i].f0
    · rw [if_pos eq, hbad ⟨j, hji, eq⟩]
    · rw [if_neg eq]
      refine ih (j + 1) k he hji (fun q h1 h => ?_) hk'
      rcases Nat.lt_or_eq_of_le (Nat.le_of_lt_succ h1) with h3 | rfl
      · exact hq q h3 h
      · exact eq
set_option maxHeartbeats 1000000 in
theorem rsane_l0 (l : List S61) (hl : l.length ≤ 30) : ∀ (d i : Nat), l.length - i = d → i ≤ l.length → Good l i → ∀ k, (d + 1) * 40 ≤ k → tenterhookref17_Sane.l0 k l (i : Int) = some (saneB (l.map t49)) := by
  intro d
  induction d with
  | zero =>
    intro i h1 h2 g k hk
    obtain ⟨k, rfl⟩ : ∃ m, k = m + 1 := ⟨k - 1, by omega⟩
    have e : i = l.length := by omega
    subst e
    have o := (good_ok l).1 g
    simp only [tenterhookref17_Sane.l0]
    rw [if_neg (by omega), (saneB_iff _).2 o]
    have := o.len
    rw [List.length_map] at this
    rw [decide_eq_true (by omega)]
  | succ d ih =>
    intro i h1 h2 g k hk
    obtain ⟨k, rfl⟩ : ∃ m, k = m + 2 := ⟨k - 2, by omega⟩
    have hi : i < l.length := by omega
    have hj1 : ∀ q : Int, tenterhookref17_Sane.j1 (k + 1) l q true = some false := by
      intro q
      simp only [tenterhookref17_Sane.j1]
      rfl
    have hno : ∀ P : Prop, (P → ¬ Good l l.length) → P → tenterhookref17_Sane.j1 (k + 1) l (i : Int) true = some (saneB (l.map t49)) := by
      intro P h p
      rw [hj1, bad (h p)]
    simp only [tenterhookref17_Sane.l0]
    rw [if_pos (by omega), if_pos (by omega), rd61_get l i hi]
    have hmay : mayB (t49 l[i]) = (decide (0 ≤ l[i].f0) && decide (l[i].f0 ≤ 7) && decide (0 ≤ l[i].f1) && decide (l[i].f1 ≤ 1125899906842624)) := rfl
    have hnm : mayB (t49 l[i]) = false → ¬ Good l l.length := fun h g2 => by rw [g2.may i hi hi] at h; cases h
    by_cases a1 : l[i].f0 < 0
    · rw [if_pos a1]; exact hno (l[i].f0 < 0) (fun h => hnm (by rw [hmay]; simp; omega)) a1
    rw [if_neg a1]
    by_cases a2 : l[i].f0 > 7
    · rw [if_pos a2]; exact hno (l[i].f0 > 7) (fun h => hnm (by rw [hmay]; simp; omega)) a2
    rw [if_neg a2]
    by_cases a3 : l[i].f1 < 0
    · rw [if_pos a3]; exact hno (l[i].f1 < 0) (fun h => hnm (by rw [hmay]; simp; omega)) a3
    rw [if_neg a3]
    by_cases a4 : l[i].f1 > 1125899906842624
    · rw [if_pos a4]; exact hno (l[i].f1 > 1125899906842624) (fun h => hnm (by rw [hmay]; simp; omega)) a4
    rw [if_neg a4]
    have hm : mayB (t49 l[i]) = true := by rw [hmay]; simp; omega
    have hgo : (∀ p : Nat, p + 1 = i → ∀ h : p < l.length, l[p].f1 ≤ l[i].f1) → tenterhookref17_Sane.j1 (k + 1) l (i : Int) false = some (saneB (l.map t49)) := by
      intro hs
      simp only [tenterhookref17_Sane.j1]
      rw [if_neg (by simp)]
      refine rids l hl i ((d + 1) * 40) hi _ (fun ⟨j, h, e⟩ => bad (fun g2 => g2.ids j i h hi (Nat.lt_trans h hi) hi e)) (fun hq k' hk' => ih (i + 1) (by omega) (by omega) (good_succ hi g hm hq hs) k' hk') i 0 k rfl (Nat.zero_le _) (fun q hq => absurd hq (Nat.not_lt_zero _)) ?_
      clear hs hno hj1 hnm hmay a1 a2 a3 a4 hm ih g
      omega
    by_cases h0 : i = 0
    · rw [if_neg (by omega)]
      exact hgo (fun p hp => by omega)
    · obtain ⟨p, rfl⟩ : ∃ p, i = p + 1 := ⟨i - 1, by omega⟩
      have hp : p < l.length := by omega
      have ew : wrap64 (((p + 1 : Nat) : Int) - 1) = ((p : Nat) : Int) := by rw [w64 (by omega) (by omega)]; omega
      rw [if_pos (by omega), ew, if_pos (by omega), if_pos (by omega), rd61_get l p hp]
      by_cases hlt : l[p + 1].f1 < l[p].f1
      · rw [decide_eq_true hlt]
        exact hno (l[p + 1].f1 < l[p].f1) (fun h g2 => by have := g2.srt p hi hp hi; omega) hlt
      · rw [decide_eq_false hlt]
        refine hgo (fun q hq h => ?_)
        obtain rfl : q = p := by omega
        exact Int.not_lt.1 hlt
theorem rsane_eq (l : List S61) (hl : l.length ≤ 30) (k : Nat) (hk : 1240 ≤ k) : tenterhookref17_Sane.f k l = some (saneB (l.map t49)) :=
  rsane_l0 l hl l.length 0 rfl (Nat.zero_le _) ⟨fun j h => absurd h (Nat.not_lt_zero _), fun j j' _ h => absurd h (Nat.not_lt_zero _), fun j h => absurd h (Nat.not_lt_zero _)⟩ k (by omega)
end Go.Proofs.Ytinngbfkefaiiaa.P
