/-
  QueueFirst answers true.
-/
import Derived.Test.YtnlnojolodnheaaQ5
import Derived.Test.YtnlnojolodnheaaP17
namespace Go.Proofs.Ytnlnojolodnheaa.Pure
open Go.RowKit Go.Proofs.Ytnlnojolodnheaa.P Go.Proofs.YtnlnojolodnheaaX Go.Proofs.YtnlnojolodnheaaW.PrintWords Go.Proofs.YtnlnojolodnheaaW.PrintLast
set_option linter.unusedVariables false
theorem back34 (m : List S34) : (m.map t60).map t34 = m := by
  rw [List.map_map]
  exact List.map_id' m
theorem l2_ok (n : Int) (y : S34) (m : List S34) (hl : m.length ≤ 1000) : ∀ (d k j : Nat), j ≤ m.length → m.length - j = d → d + m.length + 2 < k →
    tenterhooklaw16_QueueFirst.l2 k true (j : Int) n (y :: m) n (m.map t60) = some true := by
  intro d
  induction d with
  | zero =>
    intro k j h1 h2 hk
    obtain ⟨k, rfl⟩ : ∃ m, k = m + 1 := ⟨k - 1, by omega⟩
    simp only [tenterhooklaw16_QueueFirst.l2, List.length_map]
    rw [if_neg (by omega)]
  | succ d ih =>
    intro k j h1 h2 hk
    obtain ⟨k, rfl⟩ : ∃ m, k = m + 1 := ⟨k - 1, by omega⟩
    simp only [tenterhooklaw16_QueueFirst.l2, List.length_map]
    rw [if_pos (by omega), lined_eq n _ (by rw [List.length_map]; omega) k (by rw [List.length_map]; omega), back34]
    rw [Option.bind_some, w64 (by omega) (by omega)]
    have hw : (j : Int) + 1 = ((j + 1 : Nat) : Int) := by omega
    rw [if_pos (by omega), if_pos (by show (j : Int) < (m.length : Int); omega), if_pos (by omega), if_pos (by rw [List.length_cons]; omega)]
    show (if (!((rd_T34 m (j : Int)).f0 == (rd_T34 (y :: m) ((j : Int) + 1)).f0) || (!((rd_T34 m (j : Int)).f1 == (rd_T34 (y :: m) ((j : Int) + 1)).f1) || !((rd_T34 m (j : Int)).f2 == (rd_T34 (y :: m) ((j : Int) + 1)).f2))) = true then some false else tenterhooklaw16_QueueFirst.l2 k true ((j : Int) + 1) n (y :: m) n (m.map t60)) = some true
    rw [hw, rd34_get m j (by omega), rd34_get (y :: m) (j + 1) (by rw [List.length_cons]; omega), List.getElem_cons_succ]
    rw [if_neg (by simp)]
    exact ih k (j + 1) (by omega) (by omega) (by omega)
theorem l1_ok (n : Int) (y : S34) (m : List S34) (hl : m.length ≤ 1000) (hs : ∀ x ∈ m, ltB (t60 y) (t60 x) = true) : ∀ (d k j : Nat), j ≤ m.length + 1 → m.length + 1 - j = d → d + 2 * m.length + 10 < k →
    tenterhooklaw16_QueueFirst.l1 k true 0 (j : Int) n (y :: m) n (m.map t60) = some true := by
  intro d
  induction d with
  | zero =>
    intro k j h1 h2 hk
    obtain ⟨k, rfl⟩ : ∃ m, k = m + 1 := ⟨k - 1, by omega⟩
    simp only [tenterhooklaw16_QueueFirst.l1]
    rw [if_neg (by rw [List.length_cons]; omega)]
    exact l2_ok n y m hl m.length k 0 (Nat.zero_le _) rfl (by omega)
  | succ d ih =>
    intro k j h1 h2 hk
    obtain ⟨k, rfl⟩ : ∃ m, k = m + 1 := ⟨k - 1, by omega⟩
    simp only [tenterhooklaw16_QueueFirst.l1]
    rw [if_pos (by rw [List.length_cons]; omega), if_pos (by omega), if_pos (by omega), if_pos (by rw [List.length_cons]; omega), w64 (by omega) (by omega)]
    have hw : (j : Int) + 1 = ((j + 1 : Nat) : Int) := by omega
    rw [hw, ih k (j + 1) (by omega) (by omega) (by omega)]
    have e0 : rd_T34 (y :: m) 0 = y := rfl
    rw [e0, rd34_get (y :: m) j (by rw [List.length_cons]; omega)]
    cases j with
    | zero =>
      rw [List.getElem_cons_zero, if_neg (by omega), if_pos rfl, if_neg (by omega)]
    | succ i =>
      rw [List.getElem_cons_succ]
      have := (ltB_iff _ _).1 (hs m[i] (List.getElem_mem (by omega)))
      simp only [t60] at this
      rw [if_neg (by omega)]
      by_cases he : m[i].f1 = y.f1
      · rw [if_pos he, if_neg (by omega)]
      · rw [if_neg he]
theorem l0_ok (n : Int) (y : S34) (m : List S34) (hl : m.length ≤ 1000) (hs : ∀ x ∈ m, ltB (t60 y) (t60 x) = true) (hi : ∀ x ∈ m, y.f0 ≠ x.f0) : ∀ (d k j : Nat), j ≤ m.length + 1 → m.length + 1 - j = d → d + 3 * m.length + 20 < k →
    tenterhooklaw16_QueueFirst.l0 k true y.f0 (if j = 0 then -1 else 0) (j : Int) n (y :: m) n (m.map t60) = some true := by
  intro d
  induction d with
  | zero =>
    intro k j h1 h2 hk
    obtain ⟨k, rfl⟩ : ∃ m, k = m + 2 := ⟨k - 2, by omega⟩
    simp only [tenterhooklaw16_QueueFirst.l0]
    rw [if_neg (by rw [List.length_cons]; omega), if_neg (show j ≠ 0 by omega), if_neg (by omega), w64 (by rw [List.length_cons]; omega) (by rw [List.length_cons]; omega), if_pos (by rw [List.length_cons, List.length_map]; omega)]
    simp only [tenterhooklaw16_QueueFirst.j2]
    rw [if_neg (by simp)]
    exact l1_ok n y m hl hs (m.length + 1) k 0 (Nat.zero_le _) rfl (by omega)
  | succ d ih =>
    intro k j h1 h2 hk
    obtain ⟨k, rfl⟩ : ∃ m, k = m + 1 := ⟨k - 1, by omega⟩
    simp only [tenterhooklaw16_QueueFirst.l0]
    rw [if_pos (by rw [List.length_cons]; omega), if_pos (by omega), w64 (by omega) (by omega)]
    have hw : (j : Int) + 1 = ((j + 1 : Nat) : Int) := by omega
    have := ih k (j + 1) (by omega) (by omega) (by omega)
    rw [if_neg (Nat.succ_ne_zero j)] at this
    rw [hw, rd34_get (y :: m) j (by rw [List.length_cons]; omega)]
    cases j with
    | zero =>
      rw [List.getElem_cons_zero, if_pos rfl]
      exact this
    | succ i =>
      rw [List.getElem_cons_succ, if_neg (fun h => hi m[i] (List.getElem_mem (by omega)) h.symm), if_neg (Nat.succ_ne_zero i)]
      exact this
theorem j0_ok (n : Int) (l : List S34) (hl : l.length ≤ 30) (h : OkQ n (l.map t60)) (k : Nat) (hk : 200 < k) : tenterhooklaw16_QueueFirst.j0 k true false n l = some true := by
  obtain ⟨k, rfl⟩ : ∃ m, k = m + 1 := ⟨k - 1, by omega⟩
  simp only [tenterhooklaw16_QueueFirst.j0]
  rw [if_neg (by simp), line_eq n l (by omega) k (by omega), Option.bind_some]
  cases l with
  | nil =>
    show (queue_Take.f k n []).bind _ = some true
    rw [take_nil n h k (by omega)]
    rfl
  | cons y m =>
    show (queue_Take.f k n (t60 y :: m.map t60)).bind _ = some true
    rw [take_cons (by simpa using h) k (by omega), Option.bind_some]
    show tenterhooklaw16_QueueFirst.l0 k true y.f0 (-1) 0 n (y :: m) n (m.map t60) = some true
    rw [List.length_cons] at hl
    have hsrt := h.srt
    have hids := h.ids
    rw [List.map_cons, List.pairwise_cons] at hsrt hids
    exact l0_ok n y m (by omega) (fun x hx => hsrt.1 _ (List.mem_map_of_mem hx)) (fun x hx => hids.1 _ (List.mem_map_of_mem hx)) (m.length + 1) k 0 (Nat.zero_le _) rfl (by omega)
theorem QueueFirst (n : Int) (l : List S34) : ∃ k, tenterhooklaw16_QueueFirst.f k n l = some true := by
  refine ⟨500, ?_⟩
  unfold tenterhooklaw16_QueueFirst.f
  rw [awake_eq 500 (by omega), Option.bind_some]
  by_cases hl : (l.length : Int) > 30
  · rw [if_pos hl]
    simp [tenterhooklaw16_QueueFirst.j0]
  · have hl' : l.length ≤ 30 := by omega
    rw [if_neg hl, line_eq n l (by omega) 500 (by omega), Option.bind_some]
    show (queue_Sane.f 500 n (l.map t60)).bind _ = some true
    rw [sane_eq n _ (by simp; omega) 500 (by simp; omega), Option.bind_some]
    cases hs : saneB n (l.map t60) with
    | false => simp [tenterhooklaw16_QueueFirst.j0]
    | true => exact j0_ok n l hl' ((saneB_iff _ _).1 hs) 500 (by omega)
end Go.Proofs.Ytnlnojolodnheaa.Pure
