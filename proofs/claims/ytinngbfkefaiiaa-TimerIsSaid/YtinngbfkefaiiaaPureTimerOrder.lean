/- Who slept first wakes first: among those of one time; the next one is the earliest of all. No condition. -/
import Derived.Test.YtinngbfkefaiiaaP13
import Derived.Test.YtinngbfkefaiiaaQ2
namespace Go.Proofs.Ytinngbfkefaiiaa.Pure
open Go.RowKit Go.Proofs.Ytinngbfkefaiiaa.P Go.Proofs.YtinngbfkefaiiaaX Go.Proofs.YtinngbfkefaiiaaW.PrintWords Go.Proofs.YtinngbfkefaiiaaW.PrintLast Go.Proofs.YtinngbfkefaiiaaW.PrintMore
set_option linter.unusedVariables false
theorem t61_t49 (l : List S61) : (l.map t49).map t61 = l := by
  rw [List.map_map]
  have : (t61 ∘ t49) = id := rfl
  rw [this, List.map_id]
theorem split_srt (s : List S49) (hs : Srt s) (w : Int) : s.filter (fun x => decide (x.f1 ≤ w)) ++ s.filter (fun x => decide (x.f1 > w)) = s := by
  induction s with
  | nil => rfl
  | cons x s ih =>
    unfold Srt at hs
    rw [List.pairwise_cons] at hs
    by_cases h : x.f1 ≤ w
    · have h2 : ¬ x.f1 > w := by omega
      simp only [List.filter_cons, decide_eq_true h, decide_eq_false h2, if_true, Bool.false_eq_true, if_false, List.cons_append]
      rw [ih hs.2]
    · have h2 : x.f1 > w := by omega
      have e1 : (x :: s).filter (fun x => decide (x.f1 ≤ w)) = [] := by
        rw [List.filter_eq_nil_iff]
        intro y hy
        rcases List.mem_cons.1 hy with rfl | hy
        · simpa using h2
        · have := hs.1 y hy
          simp; omega
      have e2 : (x :: s).filter (fun x => decide (x.f1 > w)) = x :: s := by
        rw [List.filter_eq_self]
        intro y hy
        rcases List.mem_cons.1 hy with rfl | hy
        · simpa using h2
        · have := hs.1 y hy
          simp; omega
      rw [e1, e2]
      rfl
theorem order_loop (l : List S61) (hl : l.length ≤ 30) (s : List S49) (hsl : s = l.map t49) (hok : Ok s) (n : S49) (A B : List S49) (hAB : A ++ B = s) (hA : ∀ x ∈ A, x.f0 ≠ n.f0) (hB : ∀ x ∈ B, x.f1 > n.f1) (hm : Ok (A ++ n :: B)) (lo : Int) (hlo : ∀ x ∈ A ++ n :: B, lo ≤ x.f1) :
    ∀ (d k i : Nat), i ≤ (A ++ n :: B).length → (A ++ n :: B).length - i = d → d + 100 < k →
      tenterhooklaw17_TimerOrder.l0 k l n.f0 n.f1 true (A ++ n :: B) s true lo true (decide (A.length < i)) (i : Int) = some true := by
  have hml : (A ++ n :: B).length = s.length + 1 := by rw [← hAB]; simp; omega
  have hsl2 : s.length = l.length := by rw [hsl, List.length_map]
  intro d
  induction d with
  | zero =>
    intro k i h1 h2 hk
    obtain ⟨k, rfl⟩ : ∃ m, k = m + 1 := ⟨k - 1, by omega⟩
    simp only [tenterhooklaw17_TimerOrder.l0]
    rw [if_neg (by omega), if_pos trivial, if_pos trivial, if_pos trivial, slept_eq s (by omega) _ (by omega), Option.bind_some, hsl, t61_t49, same_eq l (by omega) _ (by omega), Option.bind_some, if_pos rfl, sane_eq _ (by omega), (saneB_iff _).2 hm, Option.bind_some, if_pos rfl,
      if_pos (by rw [w64 (by omega) (by omega)]; omega), decide_eq_true (by
        have hi : i = (A ++ n :: B).length := by omega
        rw [hi]
        simp)]
  | succ d ih =>
    intro k i h1 h2 hk
    obtain ⟨k, rfl⟩ : ∃ m, k = m + 1 := ⟨k - 1, by omega⟩
    have hi : i < (A ++ n :: B).length := by omega
    have hnext := ih k (i + 1) (by omega) (by omega) (by omega)
    have hs : wrap64 ((i : Int) + 1) = ((i + 1 : Nat) : Int) := by rw [w64 (by omega) (by omega)]; omega
    have hlo' := hlo _ (List.getElem_mem hi)
    simp only [tenterhooklaw17_TimerOrder.l0]
    rw [hs, if_pos (by omega), if_pos (by omega), rd_get _ i hi, if_neg (by omega)]
    by_cases hlt : A.length < i
    · have hx : (A ++ n :: B)[i].f1 > n.f1 := by
        refine hB _ ?_
        rw [List.getElem_append_right (by omega)]
        obtain ⟨q, hq⟩ : ∃ q, i - A.length = q + 1 := ⟨i - A.length - 1, by omega⟩
        simp only [hq, List.getElem_cons_succ]
        exact List.getElem_mem _
      rw [decide_eq_true hlt, if_pos rfl, if_neg (by omega)]
      rw [decide_eq_true (by omega : A.length < i + 1)] at hnext
      exact hnext
    · rw [decide_eq_false hlt, if_neg (by simp)]
      by_cases he : i = A.length
      · subst he
        rw [decide_eq_true (by omega : A.length < A.length + 1)] at hnext
        have hx : (A ++ n :: B)[A.length] = n := by simp
        rw [hx, show (n.f0 == n.f0) = true from by simp]
        exact hnext
      · rw [decide_eq_false (by omega : ¬ A.length < i + 1)] at hnext
        have hx : ((A ++ n :: B)[i].f0 == n.f0) = false := by
          rw [List.getElem_append_left (by omega)]
          exact beq_eq_false_iff_ne.2 (hA _ (List.getElem_mem _))
        rw [hx]
        exact hnext
theorem TimerOrder (l : List S61) (id wake : Int) : ∃ k, tenterhooklaw17_TimerOrder.f k l id wake = some true := by
  refine ⟨400, ?_⟩
  unfold tenterhooklaw17_TimerOrder.f
  rw [awake_eq _ (by omega), Option.bind_some]
  have hup : ∀ x y z, tenterhooklaw17_TimerOrder.j0 400 x y z true true = some true := by
    intro x y z
    show tenterhooklaw17_TimerOrder.j0 (399 + 1) x y z true true = some true
    simp only [tenterhooklaw17_TimerOrder.j0]
    rfl
  by_cases hb : (l.length : Int) > 30
  · rw [if_pos hb]; exact hup _ _ _
  · rw [if_neg hb, naps_eq l (by omega) _ (by omega), Option.bind_some, sane_eq _ (by rw [List.length_map]; omega), Option.bind_some]
    cases hsn : saneB (l.map t49) with
    | false => exact hup _ _ _
    | true =>
      have hok := (saneB_iff _).1 hsn
      obtain ⟨s, hs⟩ : ∃ s, l.map t49 = s := ⟨_, rfl⟩
      have hsl : s.length = l.length := by rw [← hs, List.length_map]
      rw [hs] at hok
      show tenterhooklaw17_TimerOrder.j0 (399 + 1) l id wake true false = some true
      simp only [tenterhooklaw17_TimerOrder.j0]
      rw [if_neg (by simp), naps_eq l (by omega) _ (by omega), Option.bind_some, hs, put_ok hok id wake _ (by omega), Option.bind_some]
      have hno : (if true = true then ((tenterhooklaw17_slept.f 399 s).bind fun t357 => ((tenterhookref17_Same.f 399 t357 l).bind fun t360 => (some t360))) else (some false)) = some true := by
        rw [if_pos rfl, slept_eq s (by omega) _ (by omega), Option.bind_some, ← hs, t61_t49, same_eq l (by omega) _ (by omega), Option.bind_some]
      cases hm : mayB ⟨id, wake⟩ with
      | false =>
        rw [if_neg (by simp)]
        rw [if_neg (show ¬ (false = true) by simp)]
        exact hno
      | true =>
        rw [if_pos rfl]
        cases hc : (s.any fun x => x.f0 == id) with
        | true =>
          rw [if_pos rfl]
          rw [if_neg (show ¬ (false = true) by simp)]
          exact hno
        | false =>
          rw [if_neg (show ¬ (false = true) by simp)]
          have hid : ∀ x ∈ s, x.f0 ≠ id := by
            rw [List.any_eq_false] at hc
            intro x hx
            simpa using hc x hx
          have hmo : Ok (insN s ⟨id, wake⟩) := insN_ok hok hm hc
          have hsp := split_srt s hok.srt wake
          have hins : insN s ⟨id, wake⟩ = s.filter (fun x => decide (x.f1 ≤ wake)) ++ ⟨id, wake⟩ :: s.filter (fun x => decide (x.f1 > wake)) := rfl
          have hB : ∀ x ∈ s.filter (fun x => decide (x.f1 > wake)), x.f1 > wake := fun x hx => by simpa using (List.mem_filter.1 hx).2
          have hA : ∀ x ∈ s.filter (fun x => decide (x.f1 ≤ wake)), x.f0 ≠ id := fun x hx => hid x (List.mem_filter.1 hx).1
          have hB0 : ∀ x ∈ s.filter (fun x => decide (x.f1 > wake)), x.f0 ≠ id := fun x hx => hid x (List.mem_filter.1 hx).1
          generalize s.filter (fun x => decide (x.f1 ≤ wake)) = A at hsp hins hA
          generalize s.filter (fun x => decide (x.f1 > wake)) = B at hsp hins hB hB0
          rw [hins] at hmo ⊢
          have hml : (A ++ (⟨id, wake⟩ : S49) :: B).length = s.length + 1 := by rw [← hsp]; simp; omega
          have hdrop : (A ++ (⟨id, wake⟩ : S49) :: B).filter (notId id) = s := by
            rw [List.filter_append, List.filter_cons]
            have e1 : A.filter (notId id) = A := List.filter_eq_self.2 (fun x hx => by simp [notId, hA x hx])
            have e2 : B.filter (notId id) = B := List.filter_eq_self.2 (fun x hx => by simp [notId, hB0 x hx])
            rw [e1, e2]
            simp [notId, hsp]
          have hd : timer_Drop.f (A ++ (⟨id, wake⟩ : S49) :: B) id = some (s, true) := by
            unfold timer_Drop.f
            rw [ssane_ok hmo, Option.bind_some, if_pos (by omega), hdrop, decide_eq_true (by omega)]
          have hn := next_ok hmo
          rw [if_pos (by omega)] at hn
          show (if true = true then _ else _) = some true
          rw [if_pos rfl, hd, Option.bind_some, hn, Option.bind_some]
          have hlo : ∀ x ∈ A ++ (⟨id, wake⟩ : S49) :: B, (rd_T49 (A ++ (⟨id, wake⟩ : S49) :: B) ((0 : Nat) : Int)).f1 ≤ x.f1 := by
            intro x hx
            obtain ⟨i, hi, rfl⟩ := List.mem_iff_getElem.1 hx
            rw [rd_get _ 0 (by omega)]
            rcases Nat.eq_zero_or_pos i with rfl | h0
            · exact Int.le_refl _
            · exact List.pairwise_iff_getElem.1 hmo.srt 0 i (by omega) hi h0
          have := order_loop l (by omega) s hs.symm hok ⟨id, wake⟩ A B hsp hA hB hmo _ hlo _ 399 0 (Nat.zero_le _) rfl (by rw [hml]; omega)
          rw [show decide (A.length < 0) = false from decide_eq_false (by omega)] at this
          exact this
end Go.Proofs.Ytinngbfkefaiiaa.Pure
