/- Who is due earlier is due later: those that wake at one time and then at a later one are those that wake at that at once, in order; none is lost. No condition. -/
import Derived.Test.YtinngbfkefaiiaaP10
import Derived.Test.YtinngbfkefaiiaaQ2
namespace Go.Proofs.Ytinngbfkefaiiaa.Pure
open Go.RowKit Go.Proofs.Ytinngbfkefaiiaa.P Go.Proofs.YtinngbfkefaiiaaX Go.Proofs.YtinngbfkefaiiaaW.PrintWords Go.Proofs.YtinngbfkefaiiaaW.PrintLast Go.Proofs.YtinngbfkefaiiaaW.PrintMore
set_option linter.unusedVariables false
theorem rd_int (l : List Int) (i : Nat) (h : i < l.length) : rd l (i : Int) = l[i] := by
  unfold rd
  simp [List.getD, h]
theorem parts_loop (i j : List Int) (hij : i.length + j.length ≤ 100) : ∀ (d k n : Nat), n ≤ (i ++ j).length → (i ++ j).length - n = d → d < k → tenterhooklaw17_TimerParts.l0 k true i j (i ++ j) (n : Int) = some true := by
  intro d
  induction d with
  | zero =>
    intro k n h1 h2 hk
    obtain ⟨k, rfl⟩ : ∃ m, k = m + 1 := ⟨k - 1, by omega⟩
    simp only [tenterhooklaw17_TimerParts.l0]
    rw [if_neg (by omega)]
  | succ d ih =>
    intro k n h1 h2 hk
    obtain ⟨k, rfl⟩ : ∃ m, k = m + 1 := ⟨k - 1, by omega⟩
    have hl : (i ++ j).length = i.length + j.length := List.length_append
    have hn : n < (i ++ j).length := by omega
    have hs : wrap64 ((n : Int) + 1) = ((n + 1 : Nat) : Int) := by rw [w64 (by omega) (by omega)]; omega
    have hnext := ih k (n + 1) (by omega) (by omega) (by omega)
    simp only [tenterhooklaw17_TimerParts.l0]
    rw [hs, if_pos (by omega)]
    by_cases hi : n < i.length
    · rw [if_pos (by omega), if_pos (by omega), rd_int _ n hn, rd_int i n hi, List.getElem_append_left hi, if_pos rfl, if_neg (by omega)]
      exact hnext
    · have e : wrap64 ((n : Int) - (i.length : Int)) = ((n - i.length : Nat) : Int) := by rw [w64 (by omega) (by omega)]; omega
      rw [if_neg (by omega), if_pos (by omega), if_pos (by omega), e, if_pos (by omega), if_pos (by omega), rd_int _ n hn, rd_int j (n - i.length) (by omega), List.getElem_append_right (by omega), if_pos rfl]
      exact hnext
theorem TimerParts (l : List S61) (a c : Int) (ha : (Lit.int .i64 a).wf = true) : ∃ k, tenterhooklaw17_TimerParts.f k l a c = some true := by
  refine ⟨400, ?_⟩
  unfold tenterhooklaw17_TimerParts.f
  rw [awake_eq _ (by omega)]
  simp only [Option.bind_some]
  have hup : ∀ x y z, tenterhooklaw17_TimerParts.j0 400 x y z true true = some true := by
    intro x y z
    show tenterhooklaw17_TimerParts.j0 (399 + 1) x y z true true = some true
    simp only [tenterhooklaw17_TimerParts.j0]
    rfl
  by_cases hb : (l.length : Int) > 30
  · rw [if_pos hb]; exact hup _ _ _
  · rw [if_neg hb, naps_eq l (by omega) _ (by omega)]
    simp only [Option.bind_some]
    rw [sane_eq _ (by rw [List.length_map]; omega)]
    simp only [Option.bind_some]
    cases hsn : saneB (l.map t49) with
    | false => rw [if_neg (by simp)]; exact hup _ _ _
    | true =>
      rw [if_pos rfl]
      by_cases hab : a > 1125899906842624
      · rw [decide_eq_true hab]; exact hup _ _ _
      · rw [decide_eq_false hab]
        have hok := (saneB_iff _).1 hsn
        obtain ⟨s, hs⟩ : ∃ s, l.map t49 = s := ⟨_, rfl⟩
        have hsl : s.length = l.length := by rw [← hs, List.length_map]
        rw [hs] at hok
        have hwf : -9223372036854775808 ≤ a := by
          simp only [Lit.wf, Bool.and_eq_true, decide_eq_true_eq] at ha
          exact ha.1
        obtain ⟨hm0, hm1⟩ := and_maskI c 65535 (by omega) (by omega)
        show tenterhooklaw17_TimerParts.j0 (399 + 1) l a c true false = some true
        simp only [tenterhooklaw17_TimerParts.j0]
        rw [if_neg (by simp), naps_eq l (by omega) _ (by omega), w64 (by omega) (by omega), hs]
        generalize hbb : a + Go.bits .and .i64 c 65535 = b
        rw [Option.bind_some, due_ok hok, Option.bind_some]
        set_option simprocs false in dsimp only
        have hok2 : Ok (s.drop (s.takeWhile (dueP a)).length) := hok.sub (List.drop_sublist _ _)
        rw [due_ok hok2, Option.bind_some]
        set_option simprocs false in dsimp only
        rw [Option.bind_some, due_ok hok, Option.bind_some]
        set_option simprocs false in dsimp only
        have hsp := split_take (show a ≤ b by omega) s
        generalize hT : s.takeWhile (dueP a) = T at hsp hok2 ⊢
        generalize hU : (s.drop T.length).takeWhile (dueP b) = U at hsp ⊢
        rw [hsp]
        have hTU : T.length + U.length ≤ s.length := by
          have := (List.takeWhile_sublist (p := dueP b) (l := s)).length_le
          rw [hsp, List.length_append] at this
          exact this
        have hdd : (s.drop T.length).drop U.length = s.drop (T ++ U).length := by rw [List.drop_drop, List.length_append]
        rw [hdd]
        set_option simprocs false in simp only [List.length_map, List.length_append, List.map_append]
        rw [if_pos (by rw [w64 (by omega) (by omega)]; omega), slept_eq _ (by rw [List.length_drop]; omega) _ (by rw [List.length_drop]; omega)]
        rw [Option.bind_some, Option.bind_some]
        rw [same_eq _ (by rw [List.length_map, List.length_drop]; omega) _ (by rw [List.length_map, List.length_drop]; omega)]
        rw [Option.bind_some, if_pos rfl]
        have hc : (wrap64 (((s.drop (T.length + U.length)).length : Int) + ((T.length + U.length : Nat) : Int)) != (l.length : Int)) = false := by
          rw [List.length_drop, w64 (by omega) (by omega)]
          simp
          omega
        rw [hc]
        show tenterhooklaw17_TimerParts.j1 (398 + 1) true _ _ _ false = some true
        simp only [tenterhooklaw17_TimerParts.j1]
        rw [if_neg (by simp)]
        exact parts_loop _ _ (by simp; omega) _ _ 0 (Nat.zero_le _) rfl (by simp; omega)
end Go.Proofs.Ytinngbfkefaiiaa.Pure
