/-
  QueueBack answers true.
-/
import Derived.Test.YtnlnojolodnheaaQ3
import Derived.Test.YtnlnojolodnheaaQ4
import Derived.Test.YtnlnojolodnheaaP20
namespace Go.Proofs.Ytnlnojolodnheaa.Pure
open Go.RowKit Go.Proofs.Ytnlnojolodnheaa.P Go.Proofs.YtnlnojolodnheaaX Go.Proofs.YtnlnojolodnheaaW.PrintWords Go.Proofs.YtnlnojolodnheaaW.PrintLast
set_option linter.unusedVariables false
theorem erase_ins (l : List S60) (k : Nat) (x : S60) (hk : k ≤ l.length) : (ins l k x).eraseIdx k = l := by
  unfold ins
  have h : (l.take k).length = k := by rw [List.length_take]; omega
  rw [List.eraseIdx_append_of_length_le (by omega), h, Nat.sub_self]
  simp
theorem ins_len (l : List S60) (k : Nat) (x : S60) (hk : k ≤ l.length) : (ins l k x).length = l.length + 1 := by
  unfold ins
  simp
  omega
theorem ins_at (l : List S60) (k : Nat) (x : S60) (hk : k ≤ l.length) (h : k < (ins l k x).length) : (ins l k x)[k] = x := by
  have h1 : (l.take k).length = k := by rw [List.length_take]; omega
  have h2 : (ins l k x)[k]? = some x := by
    unfold ins
    rw [List.getElem?_append_right (by omega)]
    simp [h1]
  exact (List.getElem?_eq_some_iff.1 h2).2
theorem j1_ok (n : Int) (l : List S34) (hl : l.length ≤ 30) (h : OkQ n (l.map t60)) (a3 : Int) (k : Nat) (hk : 100 < k) :
    tenterhooklaw16_QueueBack.j1 k a3 true ((l.map t60).map fun x => x.f0) false n l = some true := by
  obtain ⟨k, rfl⟩ : ∃ m, k = m + 1 := ⟨k - 1, by omega⟩
  simp only [tenterhooklaw16_QueueBack.j1]
  rw [if_neg (by simp), line_eq n l (by omega) k (by omega)]
  obtain ⟨L, hL⟩ : ∃ L, L = l.map t60 := ⟨_, rfl⟩
  rw [← hL] at h ⊢
  rw [Option.bind_some]
  show (queue_Nth.f k n L a3).bind _ = some true
  rw [nth_ok h a3 k (by omega), Option.bind_some]
  have hlen := h.len
  by_cases he : L = []
  · subst he
    simp
  · have h0 : 0 < L.length := List.length_pos_iff.2 he
    have hlt := nthI_lt L a3 he
    rw [dif_neg he, if_pos rfl]
    have hml : (L.map fun x => x.f0).length = L.length := List.length_map _
    rw [hml, if_neg (by omega), nthI_cast L a3 he, Option.bind_some, if_pos (by omega), if_pos (by omega), Option.bind_some, Int.toNat_natCast]
    have htl : ((L.map fun x => x.f0).take (nthI L a3)).length = nthI L a3 := by rw [List.length_take, hml]; omega
    rw [if_pos (by simp; omega), Option.bind_some, w64 (by omega) (by omega), if_pos (by omega), if_pos (by omega), Option.bind_some]
    have e1 : ((nthI L a3 : Int) + 1).toNat = nthI L a3 + 1 := by omega
    rw [e1, if_pos (by simp; omega), if_pos trivial, if_pos (by omega)]
    have hrd : rd (L.map fun x => x.f0) (nthI L a3 : Int) = (L[nthI L a3]'hlt).f0 := by
      unfold rd
      simp [List.getD, hlt]
    rw [hrd, if_pos rfl]
    have hid := ids_ok (h.sub (List.eraseIdx_sublist L (nthI L a3))) k (by omega)
    rw [hid, Option.bind_some]
    have hm : (L.eraseIdx (nthI L a3)).map (fun x => x.f0) = [] ++ (L.map fun x => x.f0).take (nthI L a3) ++ (L.map fun x => x.f0).drop (nthI L a3 + 1) := by
      rw [List.nil_append, List.eraseIdx_eq_take_drop_succ, List.map_append, List.map_take, List.map_drop]
    rw [← hm, same4_eq _ (by rw [List.length_map, List.length_eraseIdx]; split <;> omega) k (by rw [List.length_map, List.length_eraseIdx]; split <;> omega)]
    rfl
theorem QueueBack (n : Int) (l : List S34) (a1 a2 a3 : Int) : ∃ k, tenterhooklaw16_QueueBack.f k n l a1 a2 a3 = some true := by
  refine ⟨500, ?_⟩
  unfold tenterhooklaw16_QueueBack.f
  rw [awake_eq 500 (by omega), Option.bind_some]
  by_cases hl : (l.length : Int) > 30
  · rw [if_pos hl]
    simp [tenterhooklaw16_QueueBack.j0]
  · have hl' : l.length ≤ 30 := by omega
    rw [if_neg hl, line_eq n l (by omega) 500 (by omega), Option.bind_some]
    show (queue_Sane.f 500 n (l.map t60)).bind _ = some true
    rw [sane_eq n _ (by simp; omega) 500 (by simp; omega), Option.bind_some]
    cases hs : saneB n (l.map t60) with
    | false => simp [tenterhooklaw16_QueueBack.j0]
    | true =>
      have h := (saneB_iff _ _).1 hs
      show tenterhooklaw16_QueueBack.j0 (499 + 1) a1 a2 a3 true false n l = some true
      simp only [tenterhooklaw16_QueueBack.j0]
      rw [if_neg (by simp), line_eq n l (by omega) 499 (by omega), Option.bind_some]
      show (queue_Ids.f 499 n (l.map t60)).bind _ = some true
      rw [ids_ok h 499 (by omega), Option.bind_some, Option.bind_some]
      show (queue_Put.f 499 n (l.map t60) a1 a2).bind _ = some true
      rw [put_ok h a1 a2 499 (by omega), Option.bind_some]
      have hj1 := j1_ok n l hl' h a3 499 (by omega)
      cases hp : putB n (l.map t60) a1 a2 with
      | false =>
        rw [if_neg (by simp)]
        show (queue_Drop.f 499 n (l.map t60) a1).bind _ = some true
        rcases drop_ok h a1 499 (by omega) with ⟨hd, _⟩ | ⟨m, hm, hd, _⟩
        · rw [hd, Option.bind_some, if_neg (by simp)]
          exact hj1
        · rw [hd, Option.bind_some, if_neg (by simp)]
          exact hj1
      | true =>
        rw [if_pos rfl]
        obtain ⟨L, hL⟩ : ∃ L, L = l.map t60 := ⟨_, rfl⟩
        rw [← hL] at h hp ⊢
        have hlo := h.lo
        have hhi := h.hi
        have hok := put_OkQ h hp
        have hle := ahead_le L ⟨a1, a2, n⟩
        have hil := ins_len L (P.ahead L ⟨a1, a2, n⟩) ⟨a1, a2, n⟩ hle
        have hpb := (putB_iff n L a1 a2).1 hp
        show (queue_Drop.f 499 (n + 1) (insQ L ⟨a1, a2, n⟩) a1).bind _ = some true
        have hdrop : queue_Drop.f 499 (n + 1) (insQ L ⟨a1, a2, n⟩) a1 = some (n + 1, L, true) := by
          have hlt : P.ahead L ⟨a1, a2, n⟩ < (insQ L ⟨a1, a2, n⟩).length := by unfold insQ; omega
          have hat : (insQ L ⟨a1, a2, n⟩)[P.ahead L ⟨a1, a2, n⟩] = ⟨a1, a2, n⟩ := ins_at L _ _ hle (by omega)
          rcases drop_ok hok a1 499 (by omega) with ⟨_, hno⟩ | ⟨m, hm, hd, h1, h2⟩
          · exact absurd (by rw [hat]) (hno _ (List.getElem_mem hlt))
          · have hmk : m = P.ahead L ⟨a1, a2, n⟩ := by
              rcases Nat.lt_trichotomy m (P.ahead L ⟨a1, a2, n⟩) with hc | hc | hc
              · have := List.pairwise_iff_getElem.1 hok.ids m (P.ahead L ⟨a1, a2, n⟩) hm hlt hc
                rw [h1, hat] at this
                exact absurd rfl this
              · exact hc
              · exact absurd (by rw [hat]) (h2 _ hc)
            subst hmk
            rw [hd]
            unfold insQ
            rw [erase_ins L _ _ hle]
        rw [hdrop, Option.bind_some, if_pos rfl, if_pos rfl]
        show (queue_Ids.f 499 (n + 1) L).bind _ = some true
        have hok2 : OkQ (n + 1) L := ⟨by omega, hok.hi, fun x hx => by have := (mayB_iff x n).1 (h.may x hx); exact (mayB_iff x _).2 (by omega), h.ids, h.turns, h.srt⟩
        have hlen := h.len
        rw [ids_ok hok2 499 (by omega), Option.bind_some, same4_eq _ (by rw [List.length_map]; omega) 499 (by rw [List.length_map]; omega), Option.bind_some, if_pos rfl]
        have hw : ((n + 1) != (wrap64 (n + 1))) = false := by rw [w64 (by omega) (by omega)]; simp
        rw [hw]
        rw [hL]
        exact hj1
end Go.Proofs.Ytnlnojolodnheaa.Pure
