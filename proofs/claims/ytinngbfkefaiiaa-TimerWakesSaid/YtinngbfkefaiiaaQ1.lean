/-
  Plain facts on those that sleep: what may be, one more, who is due.
-/
import Derived.Test.YtinngbfkefaiiaaP9
import Derived.Test.YtinngbfkefaiiaaP8
namespace Go.Proofs.Ytinngbfkefaiiaa.P
open Go.RowKit Go.Proofs.YtinngbfkefaiiaaX Go.Proofs.YtinngbfkefaiiaaW.PrintWords Go.Proofs.YtinngbfkefaiiaaW.PrintLast Go.Proofs.YtinngbfkefaiiaaW.PrintMore
set_option linter.unusedVariables false
theorem w64 {x : Int} (h0 : -9223372036854775808 ≤ x) (h1 : x ≤ 9223372036854775807) : wrap64 x = x := by unfold wrap64; omega
theorem rd_get (l : List S49) (i : Nat) (h : i < l.length) : rd_T49 l (i : Int) = l[i] := by
  unfold rd_T49
  simp [List.getD, h]
theorem rd61_get (l : List S61) (i : Nat) (h : i < l.length) : rd_T61 l (i : Int) = l[i] := by
  unfold rd_T61
  simp [List.getD, h]
/-! ### which wakes first -/
theorem byWake_eq (a b c d : Int) : timer_byWake.f a b c d = some (if b < d then -1 else if b > d then 1 else 0) := by
  unfold timer_byWake.f cmp_Compare_int.f cmp_isNaN_int.f
  by_cases h1 : b < d <;> by_cases h2 : d < b <;> simp [h1, h2]
theorem ltOf_eq (x y : S49) : ltOf cfW x y = decide (x.f1 < y.f1) := by
  unfold ltOf cfW Lib.compareInt
  by_cases h1 : x.f1 < y.f1
  · simp [h1]
  · by_cases h2 : y.f1 < x.f1 <;> simp [h1, h2]
/-! ### sorted by when they wake -/
def Srt (l : List S49) : Prop := l.Pairwise fun a b => a.f1 ≤ b.f1
instance (l : List S49) : Decidable (Srt l) := inferInstanceAs (Decidable (l.Pairwise fun a b => a.f1 ≤ b.f1))
theorem srt_iff (l : List S49) : Srt l ↔ ∀ i : Nat, (h : i + 1 < l.length) → l[i].f1 ≤ l[i + 1].f1 := by
  unfold Srt
  constructor
  · intro h i hi
    exact List.pairwise_iff_getElem.1 h i (i + 1) (by omega) hi (by omega)
  · intro h
    rw [List.pairwise_iff_getElem]
    intro i j hi hj hij
    induction j with
    | zero => omega
    | succ j ih =>
      by_cases e : i = j
      · subst e; exact h i hj
      · exact Int.le_trans (ih (by omega) (by omega)) (h j hj)
theorem sorted_l0 (l : List S49) (hl : l.length ≤ 1000000) : ∀ (d k : Nat), d < l.length ∨ d = 0 → d < k → (∀ i : Nat, d ≤ i → (h : i + 1 < l.length) → l[i].f1 ≤ l[i + 1].f1) → timer_Nap_30.l0 k l (d : Int) = some (decide (Srt l)) := by
  intro d
  induction d with
  | zero =>
    intro k h1 hk ha
    obtain ⟨k, rfl⟩ : ∃ m, k = m + 1 := ⟨k - 1, by omega⟩
    simp only [timer_Nap_30.l0]
    rw [if_neg (by omega)]
    congr 1
    exact (decide_eq_true ((srt_iff l).2 (fun i h => ha i (Nat.zero_le _) h))).symm
  | succ d ih =>
    intro k h1 hk ha
    have h1 : d + 1 < l.length := by omega
    obtain ⟨k, rfl⟩ : ∃ m, k = m + 1 := ⟨k - 1, by omega⟩
    simp only [timer_Nap_30.l0]
    have e : wrap64 (((d + 1 : Nat) : Int) - 1) = (d : Int) := by rw [w64 (by omega) (by omega)]; omega
    rw [e, if_pos (by omega), if_pos (by omega), if_pos (by omega), if_pos (by omega), if_pos (by omega), byWake_eq, rd_get l (d + 1) h1, rd_get l d (by omega)]
    simp only [Option.bind_some]
    by_cases hlt : l[d + 1].f1 < l[d].f1
    · rw [if_pos hlt, if_pos (by omega)]
      congr 1
      exact (decide_eq_false (fun h => by have := (srt_iff l).1 h d h1; omega)).symm
    · rw [if_neg (by split <;> (try split) <;> omega)]
      refine ih k (by omega) (by omega) (fun i hi h => ?_)
      by_cases e : i = d
      · subst e; omega
      · exact ha i (by omega) h
theorem sorted_eq (l : List S49) (hl : l.length ≤ 1000000) (k : Nat) (hk : l.length < k) : timer_Nap_30.f k l = some (decide (Srt l)) := by
  unfold timer_Nap_30.f
  cases l with
  | nil =>
    obtain ⟨k, rfl⟩ : ∃ m, k = m + 1 := ⟨k - 1, by simp at hk; omega⟩
    have e : wrap64 ((([] : List S49).length : Int) - 1) = -1 := by rw [w64 (by simp) (by simp)]; rfl
    rw [e]
    simp only [timer_Nap_30.l0]
    rw [if_neg (by omega)]
    rfl
  | cons x l =>
    rw [List.length_cons] at hl
    have e : wrap64 (((x :: l).length : Int) - 1) = ((l.length : Nat) : Int) := by rw [List.length_cons, w64 (by omega) (by omega)]; omega
    rw [e]
    exact sorted_l0 (x :: l) (by rw [List.length_cons]; exact hl) l.length k (by simp) (by simp at hk; omega) (fun i hi h => by simp at h; omega)
/-! ### what may be -/
structure Ok (l : List S49) : Prop where
  may : ∀ x ∈ l, mayB x = true
  ids : l.Pairwise fun a b => a.f0 ≠ b.f0
  srt : Srt l
theorem chk_iff (l : List S49) : ∀ seen, timer_Sane.chk l seen = true ↔ (∀ x ∈ l, mayB x = true) ∧ (l.Pairwise fun a b => a.f0 ≠ b.f0) ∧ ∀ x ∈ l, x.f0 ∉ seen := by
  induction l with
  | nil => intro seen; simp [timer_Sane.chk]
  | cons x l ih =>
    intro seen
    simp only [timer_Sane.chk, Bool.and_eq_true, ih, List.mem_cons, List.pairwise_cons, forall_eq_or_imp, Bool.not_eq_true', List.contains_eq_mem, decide_eq_false_iff_not, not_or]
    constructor
    · rintro ⟨⟨h1, h2⟩, h3, h4, h5⟩
      exact ⟨⟨h1, h3⟩, ⟨fun y hy => fun e => (h5 y hy).1 e.symm, h4⟩, h2, fun y hy => (h5 y hy).2⟩
    · rintro ⟨⟨h1, h3⟩, ⟨h6, h4⟩, h2, h5⟩
      exact ⟨⟨h1, h2⟩, h3, h4, fun y hy => ⟨fun e => h6 y hy e.symm, h5 y hy⟩⟩
theorem chk_len (l : List S49) : ∀ seen, timer_Sane.chk l seen = true → l.length ≤ (([0, 1, 2, 3, 4, 5, 6, 7] : List Int).filter fun z => !seen.contains z).length := by
  induction l with
  | nil => intro seen _; simp
  | cons x l ih =>
    intro seen h
    simp only [timer_Sane.chk, Bool.and_eq_true, Bool.not_eq_true'] at h
    obtain ⟨⟨h1, h2⟩, h3⟩ := h
    have := ih _ h3
    have hm : x.f0 ∈ ([0, 1, 2, 3, 4, 5, 6, 7] : List Int) := by
      simp only [mayB, Bool.and_eq_true, decide_eq_true_eq] at h1
      have h8 : x.f0 = 0 ∨ x.f0 = 1 ∨ x.f0 = 2 ∨ x.f0 = 3 ∨ x.f0 = 4 ∨ x.f0 = 5 ∨ x.f0 = 6 ∨ x.f0 = 7 := by omega
      simp only [List.mem_cons, List.not_mem_nil, or_false]
      exact h8
    have hlt : ((([0, 1, 2, 3, 4, 5, 6, 7] : List Int).filter fun z => !seen.contains z).filter fun z => !(z == x.f0)).length < (([0, 1, 2, 3, 4, 5, 6, 7] : List Int).filter fun z => !seen.contains z).length := by
      rw [List.length_filter_lt_length_iff_exists]
      exact ⟨x.f0, List.mem_filter.2 ⟨hm, by rw [h2]; rfl⟩, by simp⟩
    have e : (([0, 1, 2, 3, 4, 5, 6, 7] : List Int).filter fun z => !(x.f0 :: seen).contains z) = ((([0, 1, 2, 3, 4, 5, 6, 7] : List Int).filter fun z => !seen.contains z).filter fun z => !(z == x.f0)) := by
      rw [List.filter_filter]
      congr 1
      funext z
      by_cases hz : z = x.f0 <;> simp [hz]
    rw [e] at this
    simp only [List.length_cons]
    omega
def saneB (l : List S49) : Bool := timer_Sane.chk l [] && decide (Srt l)
theorem saneB_iff (l : List S49) : saneB l = true ↔ Ok l := by
  unfold saneB
  rw [Bool.and_eq_true, decide_eq_true_eq, chk_iff]
  constructor
  · rintro ⟨⟨h1, h2, _⟩, h3⟩; exact ⟨h1, h2, h3⟩
  · rintro ⟨h1, h2, h3⟩; exact ⟨⟨h1, h2, fun _ _ => by simp⟩, h3⟩
theorem Ok.len {l : List S49} (h : Ok l) : l.length ≤ 8 := by
  have := chk_len l [] ((chk_iff l []).2 ⟨h.may, h.ids, fun _ _ => by simp⟩)
  simpa using this
theorem Ok.nil : Ok [] := ⟨by simp, List.Pairwise.nil, List.Pairwise.nil⟩
theorem Ok.sub {l m : List S49} (h : Ok l) (hs : m.Sublist l) : Ok m := ⟨fun x hx => h.may x (hs.subset hx), h.ids.sublist hs, h.srt.sublist hs⟩
theorem sane_eq (l : List S49) (hl : l.length ≤ 1000000) : timer_Sane.f l = some (saneB l) := by
  unfold timer_Sane.f saneB
  rw [if_pos hl]
  cases h : timer_Sane.chk l [] with
  | true => rw [if_pos rfl, sorted_eq l hl _ (by omega)]; rfl
  | false => rw [if_neg (by simp)]; rfl
theorem ssane_eq (l : List S49) (hl : l.length ≤ 1000000) : timer_sane.f l = some (if saneB l = true then l else []) := by
  unfold timer_sane.f
  rw [sane_eq l hl]
  simp only [Option.bind_some]
  split <;> rfl
theorem ssane_ok {l : List S49} (h : Ok l) : timer_sane.f l = some l := by
  rw [ssane_eq l (by have := h.len; omega), if_pos ((saneB_iff l).2 h)]
/-! ### one more -/
def insN (l : List S49) (n : S49) : List S49 := l.filter (fun x => decide (x.f1 ≤ n.f1)) ++ n :: l.filter (fun x => decide (x.f1 > n.f1))
open Go.Sort in
theorem swp_list (A : List S49) (y n : S49) (C : List S49) : swp (A ++ y :: n :: C).toArray (A.length + 1) A.length = (A ++ n :: y :: C).toArray := by
  unfold swp
  have e1 : (A ++ y :: n :: C).toArray[A.length]! = y := by simp
  have e2 : (A ++ y :: n :: C).toArray[A.length + 1]! = n := by simp
  rw [e1, e2]
  apply Array.ext'
  simp
open Go.Sort in
theorem insInner_list (n : S49) : ∀ (m : Nat) (A C : List S49), A.length = m → Srt A → insInner (ltOf cfW) 0 m (A ++ n :: C).toArray = (insN A n ++ C).toArray := by
  intro m
  induction m with
  | zero =>
    intro A C h hA
    obtain rfl := List.length_eq_zero_iff.1 h
    rfl
  | succ m ih =>
    intro A C h hA
    obtain ⟨A', y, rfl⟩ : ∃ A' y, A = A' ++ [y] := ⟨A.dropLast, A.getLast (by intro e; subst e; simp at h), (List.dropLast_concat_getLast _).symm⟩
    have hm : A'.length = m := by simpa using h
    subst hm
    have hA' : Srt A' ∧ ∀ x ∈ A', x.f1 ≤ y.f1 := by
      unfold Srt at hA ⊢
      rw [List.pairwise_append] at hA
      exact ⟨hA.1, fun x hx => hA.2.2 x hx y (by simp)⟩
    unfold insInner
    have e1 : (A' ++ [y] ++ n :: C).toArray[A'.length + 1]! = n := by simp
    have e0 : (A' ++ [y] ++ n :: C).toArray[A'.length]! = y := by simp
    rw [e0, e1]
    rw [ltOf_eq]
    by_cases hc : n.f1 < y.f1
    · rw [if_pos (by simp [hc])]
      have := swp_list A' y n C
      rw [show A' ++ [y] ++ n :: C = A' ++ y :: n :: C by simp, this, ih A' (y :: C) rfl hA'.1]
      congr 1
      unfold insN
      have h1 : ¬ y.f1 ≤ n.f1 := by omega
      simp [List.filter_append, h1, hc]
    · rw [if_neg (by simp [hc])]
      congr 1
      have h1 : (A' ++ [y]).filter (fun x => decide (x.f1 ≤ n.f1)) = A' ++ [y] := by
        rw [List.filter_eq_self]
        intro x hx
        rcases List.mem_append.1 hx with hx | hx
        · have := hA'.2 x hx; simp; omega
        · simp at hx; subst hx; simp; omega
      have h2 : (A' ++ [y]).filter (fun x => decide (x.f1 > n.f1)) = [] := by
        rw [List.filter_eq_nil_iff]
        intro x hx
        rcases List.mem_append.1 hx with hx | hx
        · have := hA'.2 x hx; simp; omega
        · simp at hx; subst hx; simp; omega
      unfold insN
      rw [h1, h2]
      simp
open Go.Sort in
theorem insOuter_list (s : List S49) (n : S49) (hs : Srt s) : ∀ (d i : Nat), s.length + 1 - i = d → 1 ≤ i → i ≤ s.length + 1 → i ≤ s.length → insOuter (ltOf cfW) 0 (s.length + 1) i (s ++ [n]).toArray = (insN s n).toArray := by
  intro d
  induction d with
  | zero => intro i h1 h2 h3 h4; omega
  | succ d ih =>
    intro i h1 h2 h3 h4
    unfold insOuter
    rw [if_pos (by omega)]
    by_cases e : i = s.length
    · subst e
      rw [insInner_list n s.length s [] rfl hs, List.append_nil]
      unfold insOuter
      rw [if_neg (by omega)]
    · have hstay : insInner (ltOf cfW) 0 i (s ++ [n]).toArray = (s ++ [n]).toArray := by
        obtain ⟨i, rfl⟩ : ∃ m, i = m + 1 := ⟨i - 1, by omega⟩
        unfold insInner
        have g1 : (s ++ [n]).toArray[i + 1]! = s[i + 1] := by
          rw [getElem!_pos _ _ (by simp; omega)]
          simp [List.getElem_append_left (show i + 1 < s.length by omega)]
        have g0 : (s ++ [n]).toArray[i]! = s[i] := by
          rw [getElem!_pos _ _ (by simp; omega)]
          simp [List.getElem_append_left (show i < s.length by omega)]
        have := (srt_iff s).1 hs i (by omega)
        rw [g1, g0, if_neg]
        rw [ltOf_eq, decide_eq_false (by omega : ¬ s[i + 1].f1 < s[i].f1)]
        simp
      rw [hstay]
      exact ih (i + 1) (by omega) (by omega) (by omega) (by omega)
open Go.Sort in
theorem sortL_snoc (s : List S49) (n : S49) (hs : Srt s) : sortL (s ++ [n]) = insN s n := by
  unfold sortL insertionSort
  cases s with
  | nil =>
    unfold insOuter
    rw [if_neg (by simp)]
    rfl
  | cons x s =>
    have := insOuter_list (x :: s) n hs _ 1 rfl (Nat.le_refl _) (by simp) (by simp)
    rw [show (x :: s ++ [n]).length = (x :: s).length + 1 by simp, this]
theorem idx_any (id : Int) (s : List S49) (hs : s.length ≤ 1000000) (k : Nat) (hk : s.length < k) : timer_Nap_24.f k s id = some (s.any fun x => x.f0 == id) := by
  unfold timer_Nap_24.f
  obtain ⟨r, h1, h2⟩ := idx_eq id s hs k hk
  rw [h1]
  simp only [Option.bind_some]
  congr 1
  rcases h2 with ⟨rfl, ha⟩ | ⟨m, rfl, hm, _, ha⟩
  · rw [show decide (0 ≤ (-1 : Int)) = false from rfl]
    symm
    rw [List.any_eq_false]
    intro x hx
    obtain ⟨i, hi, rfl⟩ := List.mem_iff_getElem.1 hx
    have := ha i hi
    rw [rd_get s i hi] at this
    simpa using this
  · rw [show decide (0 ≤ (m : Int)) = true from decide_eq_true (by omega)]
    symm
    rw [List.any_eq_true]
    rw [rd_get s m hm] at ha
    exact ⟨s[m], List.getElem_mem hm, by simpa using ha⟩
/-- Put, on those that may be. -/
theorem put_ok {s : List S49} (h : Ok s) (a b : Int) (k : Nat) (hk : 100 ≤ k) :
    timer_Put.f k s a b = some (if mayB ⟨a, b⟩ = true then (if (s.any fun x => x.f0 == a) = true then (s, false) else (insN s ⟨a, b⟩, true)) else (s, false)) := by
  have hl := h.len
  unfold timer_Put.f
  rw [ssane_ok h]
  have hm := may_eq ⟨a, b⟩
  simp only at hm
  simp only [Option.bind_some]
  rw [hm]
  simp only [Option.bind_some, timer_is.f]
  rw [idx_any a s (by omega) k (by omega)]
  simp only [Option.bind_some]
  cases mayB ⟨a, b⟩ with
  | false => simp
  | true =>
    simp only [if_true]
    cases (s.any fun x => x.f0 == a) with
    | true => simp
    | false =>
      simp only [Bool.false_eq_true, if_false]
      have hc : timer_Nap_26.f s = some s := by
        unfold timer_Nap_26.f
        simp only [Option.bind_some, List.nil_append, List.length_nil, Nat.zero_add]
        rw [if_pos (by omega)]
      rw [hc]
      simp only [Option.bind_some]
      rw [if_pos (by simp; omega), if_pos (by simp; omega), sortL_snoc s _ h.srt]
theorem insN_ok {s : List S49} (h : Ok s) {n : S49} (hn : mayB n = true) (hid : (s.any fun x => x.f0 == n.f0) = false) : Ok (insN s n) := by
  have hid' : ∀ x ∈ s, x.f0 ≠ n.f0 := by
    rw [List.any_eq_false] at hid
    intro x hx
    simpa using hid x hx
  have h1 := (h.sub List.filter_sublist : Ok (s.filter fun x => decide (x.f1 ≤ n.f1)))
  have h2 := (h.sub List.filter_sublist : Ok (s.filter fun x => decide (x.f1 > n.f1)))
  have hle : ∀ x ∈ s.filter (fun x => decide (x.f1 ≤ n.f1)), x ∈ s ∧ x.f1 ≤ n.f1 := fun x hx => by simpa using List.mem_filter.1 hx
  have hgt : ∀ x ∈ s.filter (fun x => decide (x.f1 > n.f1)), x ∈ s ∧ x.f1 > n.f1 := fun x hx => by simpa using List.mem_filter.1 hx
  have hpw : ∀ x ∈ s, ∀ y ∈ s, x.f1 < y.f1 → x.f0 ≠ y.f0 := by
    intro x hx y hy hxy
    obtain ⟨i, hi, rfl⟩ := List.mem_iff_getElem.1 hx
    obtain ⟨j, hj, rfl⟩ := List.mem_iff_getElem.1 hy
    have hne : i ≠ j := fun e => by subst e; omega
    rcases Nat.lt_or_gt_of_ne hne with hlt | hgt
    · exact List.pairwise_iff_getElem.1 h.ids i j hi hj hlt
    · exact fun e => List.pairwise_iff_getElem.1 h.ids j i hj hi hgt e.symm
  unfold insN
  refine ⟨fun x hx => ?_, ?_, ?_⟩
  · rcases List.mem_append.1 hx with hx | hx
    · exact h1.may x hx
    · rcases List.mem_cons.1 hx with rfl | hx
      · exact hn
      · exact h2.may x hx
  · rw [List.pairwise_append, List.pairwise_cons]
    refine ⟨h1.ids, ⟨fun y hy => fun e => hid' y (hgt y hy).1 e.symm, h2.ids⟩, fun x hx y hy => ?_⟩
    rcases List.mem_cons.1 hy with rfl | hy
    · exact hid' x (hle x hx).1
    · exact hpw x (hle x hx).1 y (hgt y hy).1 (by have := (hle x hx).2; have := (hgt y hy).2; omega)
  · unfold Srt
    rw [List.pairwise_append, List.pairwise_cons]
    refine ⟨h1.srt, ⟨fun y hy => by have := (hgt y hy).2; omega, h2.srt⟩, fun x hx y hy => ?_⟩
    rcases List.mem_cons.1 hy with rfl | hy
    · exact (hle x hx).2
    · have := (hle x hx).2; have := (hgt y hy).2; omega
/-! ### who is due -/
theorem due_ok {s : List S49} (h : Ok s) (t : Int) : timer_Due.f s t = some (s.drop (s.takeWhile (dueP t)).length, (s.takeWhile (dueP t)).map fun x => x.f0) := by
  unfold timer_Due.f
  rw [ssane_ok h]
  simp only [Option.bind_some]
  rw [if_pos (by have := h.len; omega)]
theorem due_nil (t : Int) : timer_Due.f [] t = some ([], []) := due_ok Ok.nil t
theorem next_ok {s : List S49} (h : Ok s) : timer_Next.f s = some (if s.length > 0 then ((rd_T49 s 0).f1, true) else (0, false)) := by
  unfold timer_Next.f
  rw [ssane_ok h]
  simp only [Option.bind_some]
  by_cases hl : s.length > 0
  · rw [if_pos (by omega), if_pos (by omega), if_pos hl]
  · rw [if_neg (by omega), if_neg hl]
/-! ### the document's example -/
theorem awake_eq (k : Nat) (hk : 100 ≤ k) : tenterhooklaw17_awake.f k = some true := by
  have o1 : Ok [⟨1, 5⟩] := insN_ok (s := []) Ok.nil (n := ⟨1, 5⟩) rfl rfl
  have o2 : Ok [⟨2, 3⟩, ⟨1, 5⟩] := insN_ok o1 (n := ⟨2, 3⟩) rfl rfl
  unfold tenterhooklaw17_awake.f
  rw [put_ok Ok.nil 1 5 k hk]
  have e1 : (if mayB ⟨1, 5⟩ = true then (if (([] : List S49).any fun x => x.f0 == 1) = true then (([] : List S49), false) else (insN [] ⟨1, 5⟩, true)) else ([], false)) = ([⟨1, 5⟩], true) := rfl
  rw [e1]
  simp only [Option.bind_some]
  rw [put_ok o1 2 3 k hk]
  have e2 : (if mayB ⟨2, 3⟩ = true then (if (([⟨1, 5⟩] : List S49).any fun x => x.f0 == 2) = true then (([⟨1, 5⟩] : List S49), false) else (insN [⟨1, 5⟩] ⟨2, 3⟩, true)) else ([⟨1, 5⟩], false)) = ([⟨2, 3⟩, ⟨1, 5⟩], true) := rfl
  rw [e2]
  simp only [Option.bind_some]
  rw [due_ok o2, next_ok o2, sane_eq _ (by simp), (saneB_iff _).2 o2]
  rfl
end Go.Proofs.Ytinngbfkefaiiaa.P
