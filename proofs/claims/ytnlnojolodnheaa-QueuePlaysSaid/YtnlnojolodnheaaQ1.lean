/-
  Plain facts on queues: who may be, in which order, one more.
-/
import Derived.Test.YtnlnojolodnheaaP8
namespace Go.Proofs.Ytnlnojolodnheaa.P
open Go.RowKit Go.Proofs.YtnlnojolodnheaaX Go.Proofs.YtnlnojolodnheaaF Go.Proofs.YtnlnojolodnheaaW.PrintWords Go.Proofs.YtnlnojolodnheaaW.PrintLast Go.Proofs.YtnlnojolodnheaaW.PrintMore
set_option linter.unusedVariables false
theorem w64 {x : Int} (h0 : -9223372036854775808 ≤ x) (h1 : x ≤ 9223372036854775807) : wrap64 x = x := by unfold wrap64; omega
theorem rd60_get (l : List S60) (i : Nat) (h : i < l.length) : rd_T60 l (i : Int) = l[i] := by
  unfold rd_T60
  simp [List.getD, h]
theorem rd34_get (l : List S34) (i : Nat) (h : i < l.length) : rd_T34 l (i : Int) = l[i] := by
  unfold rd_T34
  simp [List.getD, h]
/-! ### what an item may be -/
def mayB (x : S60) (n : Int) : Bool := decide (0 ≤ x.f0) && decide (x.f0 ≤ 7) && decide (0 ≤ x.f1) && decide (x.f1 ≤ 4) && decide (0 ≤ x.f2) && decide (x.f2 ≤ n - 1)
theorem mayB_iff (x : S60) (n : Int) : mayB x n = true ↔ 0 ≤ x.f0 ∧ x.f0 ≤ 7 ∧ 0 ≤ x.f1 ∧ x.f1 ≤ 4 ∧ 0 ≤ x.f2 ∧ x.f2 ≤ n - 1 := by
  simp only [mayB, Bool.and_eq_true, decide_eq_true_eq, and_assoc]
theorem may_eq (x : S60) (n : Int) (h0 : 0 ≤ n) (h1 : n ≤ 4503599627370496) : queue_Item_may.f x.f0 x.f1 x.f2 n = some (mayB x n) := by
  unfold queue_Item_may.f queue_within.f mayB
  rw [w64 (by omega) (by omega)]
  by_cases a0 : 0 ≤ x.f0 <;> by_cases a1 : x.f0 ≤ 7 <;> by_cases a2 : 0 ≤ x.f1 <;> by_cases a3 : x.f1 ≤ 4 <;> by_cases a4 : 0 ≤ x.f2 <;> by_cases a5 : x.f2 ≤ n - 1 <;> simp [a0, a1, a2, a3, a4, a5]
/-! ### the order -/
/-- x stands ahead of y. -/
def ltB (x y : S60) : Bool := decide (y.f1 < x.f1) || (decide (x.f1 = y.f1) && decide (x.f2 < y.f2))
theorem ltB_iff (x y : S60) : ltB x y = true ↔ y.f1 < x.f1 ∨ (x.f1 = y.f1 ∧ x.f2 < y.f2) := by simp [ltB]
theorem or2 (a b : Int) (k : Nat) (hk : 4 ≤ k) : cmp_Or_int.f k [a, b] = some (if a = 0 then b else a) := by
  obtain ⟨k, rfl⟩ : ∃ m, k = m + 4 := ⟨k - 4, by omega⟩
  have e0 : rd [a, b] 0 = a := rfl
  have e1 : rd [a, b] 1 = b := rfl
  have w1 : wrap64 (0 + 1) = 1 := w64 (by omega) (by omega)
  have w2 : wrap64 (1 + 1) = 2 := w64 (by omega) (by omega)
  have hl : (([a, b] : List Int).length : Int) = 2 := rfl
  simp only [cmp_Or_int.f, cmp_Or_int.l0, e0, e1, w1, w2, hl]
  by_cases h : a = 0
  · subst h
    by_cases h2 : b = 0
    · subst h2; simp
    · simp [h2]
  · simp [h]
theorem order_eq (x y : S60) (k : Nat) (hk : 4 ≤ k) (hx : 0 ≤ x.f1 ∧ x.f1 ≤ 4 ∧ 0 ≤ x.f2 ∧ x.f2 < 4503599627370496) (hy : 0 ≤ y.f1 ∧ y.f1 ≤ 4 ∧ 0 ≤ y.f2 ∧ y.f2 < 4503599627370496) :
    ∃ r, queue_order.f k x.f0 x.f1 x.f2 y.f0 y.f1 y.f2 = some r ∧ (r < 0 ↔ ltB x y = true) ∧ (r ≥ 0 ↔ ltB x y = false) := by
  unfold queue_order.f
  rw [if_pos (by simp only [fits, Bool.and_eq_true, decide_eq_true_eq]; omega), if_pos (by simp only [fits, Bool.and_eq_true, decide_eq_true_eq]; omega), or2 _ _ k hk]
  have key : ((if cmpI (-x.f1) (-y.f1) = 0 then cmpI x.f2 y.f2 else cmpI (-x.f1) (-y.f1)) < 0 ↔ ltB x y = true) := by
    rw [ltB_iff]
    unfold cmpI
    by_cases a : y.f1 < x.f1
    · rw [if_pos (show -x.f1 < -y.f1 by omega)]; simp [a]
    · rw [if_neg (show ¬ -x.f1 < -y.f1 by omega)]
      by_cases b : x.f1 < y.f1
      · rw [if_pos (show -y.f1 < -x.f1 by omega)]; simp; omega
      · rw [if_neg (show ¬ -y.f1 < -x.f1 by omega)]
        by_cases c : x.f2 < y.f2
        · simp [c]; omega
        · simp only [if_neg c, if_true]
          by_cases d : y.f2 < x.f2
          · simp [d]; omega
          · simp [d]; omega
  refine ⟨_, rfl, key, ?_⟩
  constructor
  · intro h
    exact Bool.eq_false_iff.2 (fun h2 => by have := key.2 h2; omega)
  · intro h
    rw [ge_iff_le, Int.not_lt.symm]
    exact fun h2 => by rw [key.1 h2] at h; cases h
theorem ltB_trans {x y z : S60} (h : ltB x y = true) (h' : ltB y z = true) : ltB x z = true := by
  rw [ltB_iff] at *
  omega
/-! ### which queues may be -/
structure OkQ (n : Int) (l : List S60) : Prop where
  lo : 0 ≤ n
  hi : n ≤ 1099511627776
  may : ∀ x ∈ l, mayB x n = true
  ids : l.Pairwise fun a b => a.f0 ≠ b.f0
  turns : l.Pairwise fun a b => a.f2 ≠ b.f2
  srt : l.Pairwise fun a b => ltB a b = true
/-- May these be, behind p, beside those seen? -/
def chkQ (n : Int) : Option S60 → List S60 → List Int → List Int → Bool
  | _, [], _, _ => true
  | p, x :: l, si, ti => mayB x n && (!si.contains x.f0) && (!ti.contains x.f2) && (match p with | none => true | some y => ltB y x) && chkQ n (some x) l (x.f0 :: si) (x.f2 :: ti)
theorem chkQ_iff (n : Int) (l : List S60) : ∀ (p : Option S60) (si ti : List Int), chkQ n p l si ti = true ↔
    (∀ x ∈ l, mayB x n = true) ∧ (l.Pairwise fun a b => a.f0 ≠ b.f0) ∧ (l.Pairwise fun a b => a.f2 ≠ b.f2) ∧ (l.Pairwise fun a b => ltB a b = true) ∧ (∀ x ∈ l, x.f0 ∉ si) ∧ (∀ x ∈ l, x.f2 ∉ ti) ∧ (∀ y, p = some y → ∀ x ∈ l, ltB y x = true) := by
  induction l with
  | nil => intro p si ti; simp [chkQ]
  | cons x l ih =>
    intro p si ti
    simp only [chkQ, Bool.and_eq_true, ih, List.mem_cons, List.pairwise_cons, forall_eq_or_imp, Bool.not_eq_true', List.contains_eq_mem, decide_eq_false_iff_not, not_or]
    constructor
    · rintro ⟨⟨⟨⟨h1, h2⟩, h3⟩, h4⟩, h5, h6, h7, h8, h9, h10, h11⟩
      refine ⟨⟨h1, h5⟩, ⟨fun y hy => fun e => (h9 y hy).1 e.symm, h6⟩, ⟨fun y hy => fun e => (h10 y hy).1 e.symm, h7⟩, ⟨h11 x rfl, h8⟩, ⟨h2, fun y hy => (h9 y hy).2⟩, ⟨h3, fun y hy => (h10 y hy).2⟩, ?_⟩
      rintro y rfl
      exact ⟨h4, fun z hz => ltB_trans h4 (h11 x rfl z hz)⟩
    · rintro ⟨⟨h1, h5⟩, ⟨h9, h6⟩, ⟨h10, h7⟩, ⟨h11, h8⟩, ⟨h2, h12⟩, ⟨h3, h13⟩, h14⟩
      refine ⟨⟨⟨⟨h1, h2⟩, h3⟩, ?_⟩, h5, h6, h7, h8, fun y hy => ⟨fun e => h9 y hy e.symm, h12 y hy⟩, fun y hy => ⟨fun e => h10 y hy e.symm, h13 y hy⟩, ?_⟩
      · cases p with
        | none => rfl
        | some y => exact (h14 y rfl).1
      · rintro y ⟨rfl⟩ z hz
        exact h11 z hz
def saneB (n : Int) (l : List S60) : Bool := decide (0 ≤ n) && decide (n ≤ 1099511627776) && decide (l.length ≤ 8) && chkQ n none l [] []
theorem ids_len (l : List S60) : ∀ si : List Int, (∀ x ∈ l, 0 ≤ x.f0 ∧ x.f0 ≤ 7) → (l.Pairwise fun a b => a.f0 ≠ b.f0) → (∀ x ∈ l, x.f0 ∉ si) → l.length ≤ (([0, 1, 2, 3, 4, 5, 6, 7] : List Int).filter fun z => !si.contains z).length := by
  induction l with
  | nil => intro si _ _ _; simp
  | cons x l ih =>
    intro si h1 h2 h3
    rw [List.pairwise_cons] at h2
    have := ih (x.f0 :: si) (fun y hy => h1 y (by simp [hy])) h2.2 (fun y hy hm => by
      rcases List.mem_cons.1 hm with e | e
      · exact h2.1 y hy e.symm
      · exact h3 y (by simp [hy]) e)
    have hx := h1 x (by simp)
    have hns := h3 x (by simp)
    have hm : x.f0 ∈ ([0, 1, 2, 3, 4, 5, 6, 7] : List Int) := by
      have h8 : x.f0 = 0 ∨ x.f0 = 1 ∨ x.f0 = 2 ∨ x.f0 = 3 ∨ x.f0 = 4 ∨ x.f0 = 5 ∨ x.f0 = 6 ∨ x.f0 = 7 := by omega
      simp only [List.mem_cons, List.not_mem_nil, or_false]
      exact h8
    have hlt : ((([0, 1, 2, 3, 4, 5, 6, 7] : List Int).filter fun z => !si.contains z).filter fun z => !(z == x.f0)).length < (([0, 1, 2, 3, 4, 5, 6, 7] : List Int).filter fun z => !si.contains z).length := by
      rw [List.length_filter_lt_length_iff_exists]
      exact ⟨x.f0, List.mem_filter.2 ⟨hm, by simpa using hns⟩, by simp⟩
    have e : (([0, 1, 2, 3, 4, 5, 6, 7] : List Int).filter fun z => !(x.f0 :: si).contains z) = ((([0, 1, 2, 3, 4, 5, 6, 7] : List Int).filter fun z => !si.contains z).filter fun z => !(z == x.f0)) := by
      rw [List.filter_filter]
      congr 1
      funext z
      by_cases hz : z = x.f0 <;> simp [hz]
    rw [e] at this
    simp only [List.length_cons]
    omega
theorem OkQ.len {n : Int} {l : List S60} (h : OkQ n l) : l.length ≤ 8 := by
  have := ids_len l [] (fun x hx => by have := (mayB_iff x n).1 (h.may x hx); omega) h.ids (fun _ _ => by simp)
  simpa using this
theorem saneB_iff (n : Int) (l : List S60) : saneB n l = true ↔ OkQ n l := by
  unfold saneB
  simp only [Bool.and_eq_true, decide_eq_true_eq, chkQ_iff]
  constructor
  · rintro ⟨⟨⟨h1, h2⟩, h3⟩, h4, h5, h6, h7, _⟩
    exact ⟨h1, h2, h4, h5, h6, h7⟩
  · intro h
    exact ⟨⟨⟨h.lo, h.hi⟩, h.len⟩, h.may, h.ids, h.turns, h.srt, fun _ _ => by simp, fun _ _ => by simp, fun _ e => by cases e⟩
theorem OkQ.zero : OkQ 0 [] := ⟨by omega, by omega, by simp, List.Pairwise.nil, List.Pairwise.nil, List.Pairwise.nil⟩
theorem OkQ.sub {n : Int} {l m : List S60} (h : OkQ n l) (hs : m.Sublist l) : OkQ n m := ⟨h.lo, h.hi, fun x hx => h.may x (hs.subset hx), h.ids.sublist hs, h.turns.sublist hs, h.srt.sublist hs⟩
theorem may_fits {x : S60} {n : Int} (h : mayB x n = true) (hn : n ≤ 1099511627776) : 0 ≤ x.f1 ∧ x.f1 ≤ 4 ∧ 0 ≤ x.f2 ∧ x.f2 < 4503599627370496 := by
  have := (mayB_iff x n).1 h
  omega
theorem sane_l0 (n : Int) (h0 : 0 ≤ n) (h1 : n ≤ 1099511627776) (l : List S60) (hl : l.length ≤ 1000000) : ∀ (d k j : Nat) (si ti : List Int), j ≤ l.length → l.length - j = d → d + 6 < k → (∀ y, (if j = 0 then none else l[j - 1]?) = some y → mayB y n = true) →
    queue_Sane.l0 k l (l.length : Int) (j : Int) n l si ti = some (chkQ n (if j = 0 then none else l[j - 1]?) (l.drop j) si ti) := by
  intro d
  induction d with
  | zero =>
    intro k j si ti hj hd hk hp
    obtain ⟨k, rfl⟩ : ∃ m, k = m + 1 := ⟨k - 1, by omega⟩
    have e : j = l.length := by omega
    subst e
    simp only [queue_Sane.l0]
    rw [if_neg (by omega), List.drop_length]
    simp [chkQ]
  | succ d ih =>
    intro k j si ti hj hd hk hp
    obtain ⟨k, rfl⟩ : ∃ m, k = m + 1 := ⟨k - 1, by omega⟩
    have hlt : j < l.length := by omega
    simp only [queue_Sane.l0]
    rw [if_pos (by omega), if_pos (by omega), if_pos (by omega), rd60_get l j hlt, may_eq _ n h0 (by omega)]
    simp only [Option.bind_some]
    rw [List.drop_eq_getElem_cons hlt]
    simp only [chkQ]
    cases hm : mayB l[j] n with
    | false => simp
    | true =>
      simp only [if_true, Bool.true_and]
      cases hs : si.contains l[j].f0 with
      | true => simp
      | false =>
        simp only [Bool.false_eq_true, if_false, Bool.not_false, Bool.true_and]
        cases ht : ti.contains l[j].f2 with
        | true => simp
        | false =>
          simp only [Bool.false_eq_true, if_false, Bool.not_false, Bool.true_and]
          have hnext := ih k (j + 1) (l[j].f0 :: si) (l[j].f2 :: ti) (by omega) (by omega) (by omega) (by
            intro y hy
            rw [if_neg (by omega), Nat.add_sub_cancel, List.getElem?_eq_getElem hlt] at hy
            obtain rfl := Option.some.inj hy
            exact hm)
          rw [if_neg (by omega), Nat.add_sub_cancel, List.getElem?_eq_getElem hlt] at hnext
          have hw : wrap64 ((j : Int) + 1) = ((j + 1 : Nat) : Int) := by rw [w64 (by omega) (by omega)]; omega
          rw [hw]
          by_cases hz : j = 0
          · subst hz
            rw [if_neg (by omega)]
            simpa using hnext
          · have hpr : l[j - 1]? = some l[j - 1] := List.getElem?_eq_getElem (by omega)
            have hmp := hp l[j - 1] (by rw [if_neg hz]; exact hpr)
            rw [if_neg hz] at hp ⊢
            have hw2 : wrap64 ((j : Int) - 1) = ((j - 1 : Nat) : Int) := by rw [w64 (by omega) (by omega)]; omega
            rw [if_pos (by omega), hw2, if_pos (by omega), if_pos (by omega), rd60_get l (j - 1) (by omega), hpr]
            obtain ⟨r, hr, hr1, hr2⟩ := order_eq l[j - 1] l[j] k (by omega) (may_fits hmp h1) (may_fits hm h1)
            rw [hr]
            simp only [Option.bind_some]
            cases hb : ltB l[j - 1] l[j] with
            | false => rw [if_pos (hr2.2 hb)]; simp
            | true =>
              rw [if_neg (by have := hr1.2 hb; omega), hnext]
              simp
theorem sane_eq (n : Int) (l : List S60) (hl : l.length ≤ 1000000) (k : Nat) (hk : l.length + 10 < k) : queue_Sane.f k n l = some (saneB n l) := by
  unfold queue_Sane.f queue_within.f saneB
  obtain ⟨k, rfl⟩ : ∃ m, k = m + 1 := ⟨k - 1, by omega⟩
  by_cases h0 : n ≥ 0
  · rw [if_pos h0]
    simp only [Option.bind_some]
    by_cases h1 : n ≤ 1099511627776
    · rw [if_pos (by simpa using h1)]
      simp only [queue_Sane.j0]
      by_cases h2 : l.length ≤ 8
      · rw [if_neg (by simp; omega)]
        have := sane_l0 n h0 h1 l hl l.length k 0 [] [] (Nat.zero_le _) rfl (by omega) (by intro y hy; simp at hy)
        rw [show ((0 : Nat) : Int) = 0 from rfl] at this
        rw [this]
        simp [h0, h1, h2]
      · rw [if_pos (by simp; omega)]
        simp [h2]
    · rw [if_neg (by simpa using h1)]
      simp only [queue_Sane.j0]
      simp [h1]
  · rw [if_neg h0]
    simp only [Option.bind_some, Bool.false_eq_true, if_false, queue_Sane.j0]
    have : ¬ 0 ≤ n := h0
    simp [this]
theorem ssane_eq (n : Int) (l : List S60) (hl : l.length ≤ 1000000) (k : Nat) (hk : l.length + 10 < k) : queue_sane.f k n l = some (if saneB n l = true then (n, l) else (0, [])) := by
  unfold queue_sane.f
  rw [sane_eq n l hl k hk]
  simp only [Option.bind_some]
  split <;> rfl
theorem ssane_ok {n : Int} {l : List S60} (h : OkQ n l) (k : Nat) (hk : 20 < k) : queue_sane.f k n l = some (n, l) := by
  have := h.len
  rw [ssane_eq n l (by omega) k (by omega), if_pos ((saneB_iff n l).2 h)]
end Go.Proofs.Ytnlnojolodnheaa.P
