/- Of any that sleep, one more, who is due, one less, the next one, and whether they may be, are what the reference says. No condition. -/
import Derived.Test.YtinngbfkefaiiaaP12
import Derived.Test.YtinngbfkefaiiaaQ4
import Derived.Test.YtinngbfkefaiiaaPureTimerOrder
namespace Go.Proofs.Ytinngbfkefaiiaa.Pure
open Go.RowKit Go.Proofs.Ytinngbfkefaiiaa.P Go.Proofs.YtinngbfkefaiiaaX Go.Proofs.YtinngbfkefaiiaaW.PrintWords Go.Proofs.YtinngbfkefaiiaaW.PrintLast Go.Proofs.YtinngbfkefaiiaaW.PrintMore
set_option linter.unusedVariables false
theorem take_filter (s : List S49) (hs : Srt s) (t : Int) : s.takeWhile (dueP t) = s.filter (fun x => decide (x.f1 ≤ t)) ∧ s.drop (s.takeWhile (dueP t)).length = s.filter (fun x => decide (x.f1 > t)) := by
  induction s with
  | nil => exact ⟨rfl, rfl⟩
  | cons x s ih =>
    unfold Srt at hs
    rw [List.pairwise_cons] at hs
    by_cases h : x.f1 ≤ t
    · have h2 : ¬ x.f1 > t := by omega
      obtain ⟨i1, i2⟩ := ih hs.2
      rw [List.takeWhile_cons_of_pos (by simpa [dueP] using h), List.filter_cons_of_pos (by simpa using h), List.filter_cons_of_neg (by simpa using h2)]
      exact ⟨by rw [i1], by rw [List.length_cons, List.drop_succ_cons]; exact i2⟩
    · have h2 : x.f1 > t := by omega
      have e1 : (x :: s).filter (fun x => decide (x.f1 ≤ t)) = [] := by
        rw [List.filter_eq_nil_iff]
        intro y hy
        rcases List.mem_cons.1 hy with rfl | hy
        · simpa using h2
        · have := hs.1 y hy
          simp; omega
      have e2 : (x :: s).filter (fun x => decide (x.f1 > t)) = x :: s := by
        rw [List.filter_eq_self]
        intro y hy
        rcases List.mem_cons.1 hy with rfl | hy
        · simpa using h2
        · have := hs.1 y hy
          simp; omega
      rw [List.takeWhile_cons_of_neg (by simpa [dueP] using h), e1, e2]
      exact ⟨rfl, rfl⟩
theorem filt (l : List S61) (p : S49 → Bool) : ((l.map t49).filter p).map t61 = l.filter (fun x => p (t49 x)) := by
  rw [List.filter_map, t61_t49]
  rfl
theorem rput (l l' : List S61) (hl : l'.length ≤ 30) (id w : Int) (k : Nat) (hk : 400 ≤ k) (hs : tenterhookref17_sane.f k l = some l') :
    tenterhookref17_Put.f k l id w = some (if mayB ⟨id, w⟩ = true then (if (l'.any fun x => x.f0 == id) = true then (l', false) else (l'.filter (fun x => decide (x.f1 ≤ w)) ++ [⟨id, w⟩] ++ l'.filter (fun x => decide (x.f1 > w)), true)) else (l', false)) := by
  have hj : tenterhookref17_Put.j0 k l' id w true = some (l', false) := by
    obtain ⟨k, rfl⟩ : ∃ m, k = m + 1 := ⟨k - 1, by omega⟩
    simp only [tenterhookref17_Put.j0]
    rfl
  have hmay : mayB ⟨id, w⟩ = (decide (0 ≤ id) && decide (id ≤ 7) && decide (0 ≤ w) && decide (w ≤ 1125899906842624)) := rfl
  unfold tenterhookref17_Put.f
  rw [hs, Option.bind_some]
  by_cases a1 : id < 0
  · rw [if_pos a1, hj, if_neg (by rw [hmay]; simp; omega)]
  rw [if_neg a1]
  by_cases a2 : id > 7
  · rw [if_pos a2, hj, if_neg (by rw [hmay]; simp; omega)]
  rw [if_neg a2]
  by_cases a3 : w < 0
  · rw [if_pos a3, hj, if_neg (by rw [hmay]; simp; omega)]
  rw [if_neg a3]
  by_cases a4 : w > 1125899906842624
  · rw [if_pos a4, hj, if_neg (by rw [hmay]; simp; omega)]
  rw [if_neg a4, if_pos (show mayB ⟨id, w⟩ = true by rw [hmay]; simp; omega)]
  have hh := has_l0 l' hl id l'.length k 0 (Nat.zero_le _) rfl (by omega)
  rw [List.drop_zero] at hh
  unfold tenterhookref17_has.f
  rw [show ((0 : Int)) = ((0 : Nat) : Int) from rfl, hh, Option.bind_some]
  cases hc : (l'.any fun x => x.f0 == id) with
  | true => rw [hj, if_pos rfl]
  | false =>
    rw [if_neg (by simp)]
    obtain ⟨k, rfl⟩ : ∃ m, k = m + 1 := ⟨k - 1, by omega⟩
    simp only [tenterhookref17_Put.j0]
    rw [if_neg (by simp)]
    have := put_l0 l' hl id w l'.length k 0 [] (Nat.zero_le _) rfl (by omega) (Nat.le_refl _)
    rw [List.drop_zero, List.nil_append] at this
    exact this
theorem TimerIs (l : List S61) (id w : Int) : ∃ k, tenterhooklaw17_TimerIs.f k l id w = some true := by
  refine ⟨2000, ?_⟩
  unfold tenterhooklaw17_TimerIs.f
  rw [awake_eq _ (by omega), Option.bind_some]
  by_cases hb : (l.length : Int) > 30
  · rw [if_pos hb]
  · rw [if_neg hb, naps_eq l (by omega) _ (by omega), Option.bind_some]
    have hlen : (l.map t49).length = l.length := List.length_map _
    obtain ⟨l', hl', hok, hS, hR, hb', hN⟩ : ∃ l' : List S61, l'.length ≤ 30 ∧ Ok (l'.map t49) ∧ timer_sane.f (l.map t49) = some (l'.map t49) ∧ tenterhookref17_sane.f 2000 l = some l' ∧ timer_Sane.f (l.map t49) = some (saneB (l.map t49)) ∧ tenterhookref17_Sane.f 2000 l = some (saneB (l.map t49)) := by
      have h1 := ssane_eq (l.map t49) (by omega)
      have h2 := rsane_eq l (by omega) 2000 (by omega)
      have h3 := sane_eq (l.map t49) (by omega)
      cases hs : saneB (l.map t49) with
      | true =>
        rw [hs, if_pos rfl] at h1
        rw [hs] at h2 h3
        exact ⟨l, by omega, (saneB_iff _).1 hs, h1, by unfold tenterhookref17_sane.f; rw [h2]; rfl, h3, h2⟩
      | false =>
        rw [hs, if_neg (by simp)] at h1
        rw [hs] at h2 h3
        exact ⟨[], by simp, Ok.nil, h1, by unfold tenterhookref17_sane.f; rw [h2]; rfl, h3, h2⟩
    have ht := take_filter _ hok.srt w
    have hl8 := hok.len
    rw [List.length_map] at hl8
    have hput : timer_Put.f 2000 (l.map t49) id w = timer_Put.f 2000 (l'.map t49) id w := by unfold timer_Put.f; rw [hS, ssane_ok hok]
    have hdue : timer_Due.f (l.map t49) w = timer_Due.f (l'.map t49) w := by unfold timer_Due.f; rw [hS, ssane_ok hok]
    have hdrop : timer_Drop.f (l.map t49) id = timer_Drop.f (l'.map t49) id := by unfold timer_Drop.f; rw [hS, ssane_ok hok]
    have hnext : timer_Next.f (l.map t49) = timer_Next.f (l'.map t49) := by unfold timer_Next.f; rw [hS, ssane_ok hok]
    have hP : ∃ A B q, timer_Put.f 2000 (l.map t49) id w = some (A, q) ∧ tenterhookref17_Put.f 2000 l id w = some (B, q) ∧ A.map t61 = B ∧ A.length ≤ 100 := by
      rw [hput, put_ok hok id w _ (by omega), rput l l' hl' id w 2000 (by omega) hR]
      have hany : ((l'.map t49).any fun x => x.f0 == id) = (l'.any fun x => x.f0 == id) := by rw [List.any_map]; rfl
      rw [hany]
      cases mayB ⟨id, w⟩ with
      | false => exact ⟨_, _, _, rfl, rfl, t61_t49 l', by rw [List.length_map]; omega⟩
      | true =>
        cases (l'.any fun x => x.f0 == id) with
        | true => exact ⟨_, _, _, rfl, rfl, t61_t49 l', by rw [List.length_map]; omega⟩
        | false =>
          refine ⟨_, _, _, rfl, rfl, ?_, ?_⟩
          · show (insN (l'.map t49) ⟨id, w⟩).map t61 = _
            unfold insN
            rw [List.map_append, List.map_cons, filt, filt]
            simp [t49, t61]
            rfl
          · show (insN (l'.map t49) ⟨id, w⟩).length ≤ 100
            unfold insN
            have h1 := List.length_filter_le (fun x : S49 => decide (x.f1 ≤ w)) (l'.map t49)
            have h2 := List.length_filter_le (fun x : S49 => decide (x.f1 > w)) (l'.map t49)
            rw [List.length_map] at h1 h2
            simp only [List.length_append, List.length_cons]
            omega
    have hD : ∃ A B q, timer_Due.f (l.map t49) w = some (A, q) ∧ tenterhookref17_Due.f 2000 l w = some (B, q) ∧ A.map t61 = B ∧ A.length ≤ 100 ∧ q.length ≤ 100 := by
      rw [hdue, due_ok hok]
      unfold tenterhookref17_Due.f
      have h := due_l0 l' hl' w l'.length 2000 0 [] [] (Nat.zero_le _) rfl (by omega) (Nat.le_refl _) (Nat.le_refl _)
      rw [List.drop_zero, List.nil_append, List.nil_append] at h
      rw [hR, Option.bind_some, show ((0 : Int)) = ((0 : Nat) : Int) from rfl, h, ht.1]
      rw [ht.1] at ht
      rw [ht.2]
      refine ⟨_, _, _, rfl, ?_, rfl, ?_, ?_⟩
      · rw [filt]
        congr 2
        rw [List.filter_map, List.map_map]
        rfl
      · have h1 := List.length_filter_le (fun x : S49 => decide (x.f1 > w)) (l'.map t49)
        rw [List.length_map] at h1
        omega
      · have h1 := List.length_filter_le (fun x : S49 => decide (x.f1 ≤ w)) (l'.map t49)
        rw [List.length_map] at h1 ⊢
        omega
    have hX : ∃ A B q, timer_Drop.f (l.map t49) id = some (A, q) ∧ tenterhookref17_Drop.f 2000 l id = some (B, q) ∧ A.map t61 = B ∧ A.length ≤ 100 := by
      rw [hdrop]
      unfold tenterhookref17_Drop.f timer_Drop.f
      have h := drop_l0 l' hl' id l'.length 2000 0 [] (Nat.zero_le _) rfl (by omega) (Nat.le_refl _)
      rw [List.drop_zero, List.nil_append] at h
      rw [hR, Option.bind_some, show ((0 : Int)) = ((0 : Nat) : Int) from rfl, h, ssane_ok hok, Option.bind_some, if_pos (by rw [List.length_map]; omega)]
      have e : ((l'.map t49).filter (notId id)).map t61 = l'.filter (fun x => !(x.f0 == id)) := by rw [filt]; rfl
      have e2 : ((l'.map t49).filter (notId id)).length = (l'.filter (fun x => !(x.f0 == id))).length := by rw [← e, List.length_map]
      refine ⟨_, _, _, rfl, ?_, e, ?_⟩
      · rw [e2, List.length_map]
      · have h1 := List.length_filter_le (notId id) (l'.map t49)
        rw [List.length_map] at h1
        omega
    have hZ : ∃ a q, timer_Next.f (l.map t49) = some (a, q) ∧ tenterhookref17_Next.f 2000 l = some (a, q) := by
      rw [hnext, next_ok hok]
      unfold tenterhookref17_Next.f
      rw [hR, Option.bind_some]
      cases l' with
      | nil => exact ⟨_, _, rfl, rfl⟩
      | cons x l' =>
        refine ⟨_, _, rfl, ?_⟩
        rw [if_neg (by rw [List.length_cons]; omega), if_pos (by rw [List.length_cons]; omega)]
        rfl
    obtain ⟨PA, PB, pq, p1, p2, p3, p4⟩ := hP
    obtain ⟨DA, DB, dq, d1, d2, d3, d4, d5⟩ := hD
    obtain ⟨XA, XB, xq, x1, x2, x3, x4⟩ := hX
    obtain ⟨za, zq, z1, z2⟩ := hZ
    rw [p1, Option.bind_some, p2, Option.bind_some, Option.bind_some, d1, Option.bind_some, d2, Option.bind_some, Option.bind_some, x1, Option.bind_some, x2, Option.bind_some, Option.bind_some, z1, Option.bind_some, z2, Option.bind_some, if_pos rfl]
    set_option simprocs false in dsimp only
    have s1 := slept_eq PA (by omega) 2000 (by omega)
    have s2 := slept_eq DA (by omega) 2000 (by omega)
    have s3 := slept_eq XA (by omega) 2000 (by omega)
    rw [p3] at s1
    rw [d3] at s2
    rw [x3] at s3
    have q1 : PB.length ≤ 100 := by rw [← p3, List.length_map]; exact p4
    have q2 : DB.length ≤ 100 := by rw [← d3, List.length_map]; exact d4
    have q3 : XB.length ≤ 100 := by rw [← x3, List.length_map]; exact x4
    rw [s1, Option.bind_some, same_eq PB (by omega) _ (by omega), Option.bind_some, if_pos rfl, if_pos (by simp), s2, Option.bind_some, same_eq DB (by omega) _ (by omega), Option.bind_some, if_pos rfl, same4_eq dq (by omega) _ (by omega), Option.bind_some, if_pos rfl,
      s3, Option.bind_some, same_eq XB (by omega) _ (by omega), Option.bind_some, if_pos rfl, if_pos (by simp), if_pos rfl, if_pos (by simp), Option.bind_some, hb', Option.bind_some, hN, Option.bind_some]
    simp
end Go.Proofs.Ytinngbfkefaiiaa.Pure
