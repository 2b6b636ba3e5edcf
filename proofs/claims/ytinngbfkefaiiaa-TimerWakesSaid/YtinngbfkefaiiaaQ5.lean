/-
  Plain facts for TimerWakes: those that are put one by one, and tick by tick who is left.
-/
import Derived.Test.YtinngbfkefaiiaaQ2
namespace Go.Proofs.Ytinngbfkefaiiaa.P
open Go.RowKit Go.Proofs.YtinngbfkefaiiaaX Go.Proofs.YtinngbfkefaiiaaW.PrintWords Go.Proofs.YtinngbfkefaiiaaW.PrintLast Go.Proofs.YtinngbfkefaiiaaW.PrintMore
set_option linter.unusedVariables false
/-- When the k-th wakes. -/
def wv (ws : List Int) (k : Nat) : Int := Go.bits .and .i64 (rd ws (k : Int)) 31
theorem wv_le (ws : List Int) (k : Nat) : 0 ≤ wv ws k ∧ wv ws k ≤ 31 := and_maskI _ 31 (by omega) (by omega)
/-- The first i of them, put. -/
def lst (ws : List Int) : Nat → List S49
  | 0 => []
  | i + 1 => insN (lst ws i) ⟨(i : Int), wv ws i⟩
theorem mem_insN (l : List S49) (n x : S49) : x ∈ insN l n ↔ x ∈ l ∨ x = n := by
  unfold insN
  simp only [List.mem_append, List.mem_filter, List.mem_cons, decide_eq_true_eq]
  constructor
  · rintro (⟨h, _⟩ | h | ⟨h, _⟩)
    · exact .inl h
    · exact .inr h
    · exact .inl h
  · rintro (h | h)
    · by_cases e : x.f1 ≤ n.f1
      · exact .inl ⟨h, e⟩
      · exact .inr (.inr ⟨h, by omega⟩)
    · exact .inr (.inl h)
theorem mem_lst (ws : List Int) (i : Nat) (x : S49) : x ∈ lst ws i ↔ ∃ k : Nat, k < i ∧ x = ⟨(k : Int), wv ws k⟩ := by
  induction i with
  | zero => simp [lst]
  | succ i ih =>
    rw [lst, mem_insN, ih]
    constructor
    · rintro (⟨k, h, e⟩ | e)
      · exact ⟨k, by omega, e⟩
      · exact ⟨i, by omega, e⟩
    · rintro ⟨k, h, e⟩
      by_cases hk : k = i
      · subst hk; exact .inr e
      · exact .inl ⟨k, by omega, e⟩
theorem lst_new (ws : List Int) (i : Nat) : ((lst ws i).any fun x => x.f0 == (i : Int)) = false := by
  rw [List.any_eq_false]
  intro x hx
  obtain ⟨k, hk, rfl⟩ := (mem_lst ws i x).1 hx
  simp only [beq_iff_eq]
  omega
theorem lst_may (ws : List Int) (i : Nat) (h : i < 8) : mayB ⟨(i : Int), wv ws i⟩ = true := by
  have := wv_le ws i
  simp only [mayB, Bool.and_eq_true, decide_eq_true_eq]
  omega
theorem lst_ok (ws : List Int) : ∀ i : Nat, i ≤ 8 → Ok (lst ws i) := by
  intro i
  induction i with
  | zero => exact fun _ => Ok.nil
  | succ i ih => exact fun h => insN_ok (ih (by omega)) (lst_may ws i (by omega)) (lst_new ws i)
theorem lst_put (ws : List Int) (i : Nat) (h : i < 8) : timer_Put.f 100 (lst ws i) (i : Int) (wv ws i) = some (lst ws (i + 1), true) := by
  rw [put_ok (lst_ok ws i (by omega)) _ _ 100 (Nat.le_refl _), if_pos (lst_may ws i h), if_neg (by rw [lst_new]; simp)]
  rfl
/-- Who is left ahead of the d-th tick from s on. -/
def left (ws : List Int) (n : Nat) (s : Int) : Nat → List S49
  | 0 => lst ws n
  | d + 1 => (left ws n s d).drop ((left ws n s d).takeWhile (dueP (s + d))).length
/-- Who wakes at it. -/
def wakes (ws : List Int) (n : Nat) (s : Int) (d : Nat) : List S49 := (left ws n s d).takeWhile (dueP (s + d))
theorem left_ok (ws : List Int) (n : Nat) (hn : n ≤ 8) (s : Int) : ∀ d, Ok (left ws n s d)
  | 0 => lst_ok ws n hn
  | d + 1 => (left_ok ws n hn s d).sub (List.drop_sublist _ _)
theorem left_due (ws : List Int) (n : Nat) (hn : n ≤ 8) (s : Int) (d : Nat) : timer_Due.f (left ws n s d) (s + d) = some (left ws n s (d + 1), (wakes ws n s d).map fun x => x.f0) := due_ok (left_ok ws n hn s d) _
theorem mem_takeWhile_srt {l : List S49} (h : Srt l) (t : Int) (x : S49) : x ∈ l.takeWhile (dueP t) ↔ x ∈ l ∧ x.f1 ≤ t := by
  induction l with
  | nil => simp
  | cons y l ih =>
    have hy : ∀ z ∈ l, y.f1 ≤ z.f1 := (List.pairwise_cons.1 h).1
    have hl : Srt l := (List.pairwise_cons.1 h).2
    by_cases e : y.f1 ≤ t
    · rw [List.takeWhile_cons_of_pos (by simpa [dueP] using e), List.mem_cons, List.mem_cons, ih hl]
      constructor
      · rintro (rfl | ⟨h1, h2⟩)
        · exact ⟨.inl rfl, e⟩
        · exact ⟨.inr h1, h2⟩
      · rintro ⟨rfl | h1, h2⟩
        · exact .inl rfl
        · exact .inr ⟨h1, h2⟩
    · rw [List.takeWhile_cons_of_neg (by simpa [dueP] using e)]
      constructor
      · intro h; cases h
      · rintro ⟨h1, h2⟩
        rcases List.mem_cons.1 h1 with rfl | h1
        · exact absurd h2 e
        · have := hy x h1; omega
theorem mem_drop_srt {l : List S49} (h : Srt l) (t : Int) (x : S49) : x ∈ l.drop (l.takeWhile (dueP t)).length ↔ x ∈ l ∧ t < x.f1 := by
  induction l with
  | nil => simp
  | cons y l ih =>
    have hy : ∀ z ∈ l, y.f1 ≤ z.f1 := (List.pairwise_cons.1 h).1
    have hl : Srt l := (List.pairwise_cons.1 h).2
    by_cases e : y.f1 ≤ t
    · rw [List.takeWhile_cons_of_pos (by simpa [dueP] using e), List.length_cons, List.drop_succ_cons, ih hl, List.mem_cons]
      constructor
      · rintro ⟨h1, h2⟩
        exact ⟨.inr h1, h2⟩
      · rintro ⟨rfl | h1, h2⟩
        · omega
        · exact ⟨h1, h2⟩
    · rw [List.takeWhile_cons_of_neg (by simpa [dueP] using e)]
      constructor
      · intro h1
        refine ⟨h1, ?_⟩
        rcases List.mem_cons.1 h1 with rfl | h1
        · omega
        · have := hy x h1; omega
      · exact fun h1 => h1.1
theorem mem_left (ws : List Int) (n : Nat) (hn : n ≤ 8) (s : Int) (d : Nat) (x : S49) : x ∈ left ws n s d ↔ x ∈ lst ws n ∧ (d = 0 ∨ s + d ≤ x.f1) := by
  induction d with
  | zero => simp [left]
  | succ d ih =>
    rw [left, mem_drop_srt (left_ok ws n hn s d).srt, ih]
    constructor
    · rintro ⟨⟨h1, h2⟩, h3⟩
      exact ⟨h1, .inr (by omega)⟩
    · rintro ⟨h1, h2 | h2⟩
      · omega
      · exact ⟨⟨h1, .inr (by omega)⟩, by omega⟩
/-- Who wakes: his number, and when. -/
theorem wakes_get (ws : List Int) (n : Nat) (hn : n ≤ 8) (s : Int) (d i : Nat) (hi : i < (wakes ws n s d).length) :
    ∃ k : Nat, k < n ∧ (wakes ws n s d)[i] = ⟨(k : Int), wv ws k⟩ ∧ wv ws k ≤ s + d ∧ (d = 0 ∨ s + d ≤ wv ws k) := by
  have hm : (wakes ws n s d)[i] ∈ wakes ws n s d := List.getElem_mem hi
  have h1 := (mem_takeWhile_srt (left_ok ws n hn s d).srt _ _).1 hm
  have h2 := (mem_left ws n hn s d _).1 h1.1
  obtain ⟨k, hk, e⟩ := (mem_lst ws n _).1 h2.1
  refine ⟨k, hk, e, ?_, ?_⟩
  · have := h1.2; rw [e] at this; exact this
  · have := h2.2; rw [e] at this; exact this
/-- How often the k-th has woken: ahead of the d-th tick, and those of its first i that wake. -/
def cnt (ws : List Int) (n : Nat) (s : Int) (d i : Nat) (k : Nat) : Int :=
  if (k < n ∧ 0 < d ∧ wv ws k < s + d) ∨ (k : Int) ∈ ((wakes ws n s d).map fun x => x.f0).take i then 1 else 0
theorem cnt_start (ws : List Int) (n : Nat) (s : Int) (k : Nat) : cnt ws n s 0 0 k = 0 := by
  unfold cnt
  rw [if_neg (by simp)]
theorem cnt_zero (ws : List Int) (n : Nat) (hn : n ≤ 8) (s : Int) (d i : Nat) (hi : i < (wakes ws n s d).length) (k : Nat) (hk : ((wakes ws n s d)[i]).f0 = (k : Int)) : cnt ws n s d i k = 0 := by
  obtain ⟨q, hq, e, h1, h2⟩ := wakes_get ws n hn s d i hi
  rw [e] at hk
  have hqk : q = k := by simp only at hk; omega
  subst hqk
  unfold cnt
  rw [if_neg]
  rintro (⟨_, h3, h4⟩ | h3)
  · omega
  · have hnd : (wakes ws n s d).Pairwise fun a b => a.f0 ≠ b.f0 := (left_ok ws n hn s d).ids.sublist (List.takeWhile_sublist _)
    obtain ⟨j, hj, e2⟩ := List.mem_iff_getElem.1 h3
    rw [List.length_take, List.length_map] at hj
    rw [List.getElem_take, List.getElem_map] at e2
    have := List.pairwise_iff_getElem.1 hnd j i (by omega) hi (by omega)
    rw [e] at this
    exact this (by simpa using e2)
theorem cnt_step (ws : List Int) (n : Nat) (s : Int) (d i : Nat) (hi : i < (wakes ws n s d).length) (k : Nat) (hk : ((wakes ws n s d)[i]).f0 = (k : Int)) (q : Nat) : cnt ws n s d (i + 1) q = if q = k then 1 else cnt ws n s d i q := by
  unfold cnt
  have e : ((wakes ws n s d).map fun x => x.f0).take (i + 1) = ((wakes ws n s d).map fun x => x.f0).take i ++ [(k : Int)] := by
    have h1 : i < ((wakes ws n s d).map fun x => x.f0).length := by rw [List.length_map]; exact hi
    have h2 : ((wakes ws n s d).map fun x => x.f0)[i] = (k : Int) := by rw [List.getElem_map]; exact hk
    rw [List.take_succ_eq_append_getElem h1, h2]
  rw [e]
  simp only [List.mem_append, List.mem_singleton]
  by_cases hq : q = k
  · subst hq
    rw [if_pos (.inr (.inr rfl)), if_pos rfl]
  · rw [if_neg hq]
    have : ¬ ((q : Int) = (k : Int)) := by omega
    simp [this]
theorem cnt_next (ws : List Int) (n : Nat) (hn : n ≤ 8) (s : Int) (d k : Nat) : cnt ws n s d (wakes ws n s d).length k = cnt ws n s (d + 1) 0 k := by
  unfold cnt
  have e : ((wakes ws n s d).map fun x => x.f0).take (wakes ws n s d).length = (wakes ws n s d).map fun x => x.f0 := List.take_of_length_le (by simp)
  rw [e]
  congr 1
  simp only [List.take_zero, List.not_mem_nil, or_false, eq_iff_iff]
  constructor
  · rintro (⟨h1, h2, h3⟩ | h)
    · exact ⟨h1, by omega, by omega⟩
    · obtain ⟨x, hx, e⟩ := List.mem_map.1 h
      have h1 := (mem_takeWhile_srt (left_ok ws n hn s d).srt _ _).1 hx
      have h2 := (mem_left ws n hn s d _).1 h1.1
      obtain ⟨q, hq, e2⟩ := (mem_lst ws n _).1 h2.1
      subst e2
      have hqk : q = k := by simp only at e; omega
      subst hqk
      have := h1.2
      simp only at this
      exact ⟨hq, by omega, by omega⟩
  · rintro ⟨h1, h2, h3⟩
    by_cases hc : 0 < d ∧ wv ws k < s + d
    · exact .inl ⟨h1, hc⟩
    · refine .inr (List.mem_map.2 ⟨⟨(k : Int), wv ws k⟩, ?_, rfl⟩)
      refine (mem_takeWhile_srt (left_ok ws n hn s d).srt _ _).2 ⟨(mem_left ws n hn s d _).2 ⟨(mem_lst ws n _).2 ⟨k, h1, rfl⟩, ?_⟩, ?_⟩
      · simp only
        by_cases h0 : d = 0
        · exact .inl h0
        · exact .inr (by omega)
      · simp only
        omega
theorem cnt_end (ws : List Int) (n : Nat) (s : Int) (d k : Nat) (hk : k < n) (hd : 31 < s + d) (h0 : 0 < d) : cnt ws n s d 0 k = 1 := by
  have := wv_le ws k
  unfold cnt
  rw [if_pos (.inl ⟨hk, h0, by omega⟩)]
theorem left_end (ws : List Int) (n : Nat) (hn : n ≤ 8) (s : Int) (d : Nat) (hd : 31 < s + d) (h0 : 0 < d) : left ws n s d = [] := by
  rw [List.eq_nil_iff_forall_not_mem]
  intro x hx
  have h1 := (mem_left ws n hn s d x).1 hx
  obtain ⟨k, hk, rfl⟩ := (mem_lst ws n _).1 h1.1
  have := wv_le ws k
  have := h1.2
  simp only at this
  omega
end Go.Proofs.Ytinngbfkefaiiaa.P
