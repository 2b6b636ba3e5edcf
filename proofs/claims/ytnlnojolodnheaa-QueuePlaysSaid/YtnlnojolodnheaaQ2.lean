/-
  Plain facts on queues: where one more goes, one less, who is there.
-/
import Derived.Test.YtnlnojolodnheaaQ1
import Derived.Test.YtnlnojolodnheaaP10
import Derived.Test.YtnlnojolodnheaaP14
namespace Go.Proofs.Ytnlnojolodnheaa.P
open Go.RowKit Go.Proofs.YtnlnojolodnheaaX Go.Proofs.YtnlnojolodnheaaF Go.Proofs.YtnlnojolodnheaaW.PrintWords Go.Proofs.YtnlnojolodnheaaW.PrintLast Go.Proofs.YtnlnojolodnheaaW.PrintMore
set_option linter.unusedVariables false
/-! ### the binary search -/
theorem mid_eq {i j : Nat} (hj : j ≤ 1000000) (hij : i < j) : wrap64 ((IntKind.u64.wrap (wrap64 ((i : Int) + (j : Int)))) / 2) = (((i + j) / 2 : Nat) : Int) := by
  rw [w64 (x := (i : Int) + (j : Int)) (by omega) (by omega)]
  have : IntKind.u64.wrap ((i : Int) + (j : Int)) = (i : Int) + (j : Int) := by
    rw [IntKind.wrap_u64]
    omega
  rw [this, w64 (by omega) (by omega)]
  omega
/-- How many stand ahead of x. -/
def ahead (l : List S60) (x : S60) : Nat := (l.takeWhile fun y => ltB y x).length
theorem ahead_le (l : List S60) (x : S60) : ahead l x ≤ l.length := (List.takeWhile_sublist _).length_le
theorem ahead_lt {l : List S60} (hs : l.Pairwise fun a b => ltB a b = true) (x : S60) (i : Nat) (hi : i < l.length) : ltB l[i] x = true ↔ i < ahead l x := by
  induction l generalizing i with
  | nil => simp at hi
  | cons y l ih =>
    rw [List.pairwise_cons] at hs
    unfold ahead
    by_cases hy : ltB y x = true
    · rw [List.takeWhile_cons_of_pos (p := fun y => ltB y x) hy, List.length_cons]
      cases i with
      | zero => simp [hy]
      | succ i =>
        simp only [List.length_cons] at hi
        rw [List.getElem_cons_succ, ih hs.2 i (by omega)]
        unfold ahead
        omega
    · rw [List.takeWhile_cons_of_neg (p := fun y => ltB y x) hy]
      simp only [List.length_nil, Nat.not_lt_zero, iff_false]
      cases i with
      | zero => exact hy
      | succ i =>
        simp only [List.length_cons] at hi
        rw [List.getElem_cons_succ]
        intro h
        exact hy (ltB_trans (hs.1 _ (List.getElem_mem (by omega))) h)
theorem search_l0 (l : List S60) (x : S60) (hs : l.Pairwise fun a b => ltB a b = true) (hl : l.length ≤ 1000000) (hf : ∀ y ∈ l, 0 ≤ y.f1 ∧ y.f1 ≤ 4 ∧ 0 ≤ y.f2 ∧ y.f2 < 4503599627370496) (hx : 0 ≤ x.f1 ∧ x.f1 ≤ 4 ∧ 0 ≤ x.f2 ∧ x.f2 < 4503599627370496) :
    ∀ (d k i j : Nat), j - i = d → d + 6 < k → i ≤ ahead l x → ahead l x ≤ j → j ≤ l.length → ∃ b, queue_Item_30.l0 k l (l.length : Int) (i : Int) (j : Int) x.f0 x.f1 x.f2 = some (((ahead l x : Nat) : Int), b) := by
  intro d
  induction d using Nat.strongRecOn with
  | _ d ih =>
    intro k i j hd hk h1 h2 h3
    obtain ⟨k, rfl⟩ : ∃ m, k = m + 1 := ⟨k - 1, by omega⟩
    simp only [queue_Item_30.l0]
    by_cases hij : i < j
    · rw [if_pos (by omega)]
      have hm : (i + j) / 2 < l.length := by omega
      rw [mid_eq (by omega) hij, if_pos (by omega), if_pos (by omega), rd60_get l _ hm]
      obtain ⟨r, hr, hr1, hr2⟩ := order_eq l[(i + j) / 2] x k (by omega) (hf _ (List.getElem_mem hm)) hx
      rw [hr]
      simp only [Option.bind_some]
      have hlt := ahead_lt hs x ((i + j) / 2) hm
      by_cases hb : ltB l[(i + j) / 2] x = true
      · rw [if_pos (hr1.2 hb), w64 (by omega) (by omega), show ((((i + j) / 2 : Nat) : Int) + 1) = (((i + j) / 2 + 1 : Nat) : Int) by omega]
        exact ih (j - ((i + j) / 2 + 1)) (by omega) k _ _ rfl (by omega) (by have := hlt.1 hb; omega) h2 h3
      · rw [if_neg (fun h => hb (hr1.1 h))]
        exact ih ((i + j) / 2 - i) (by omega) k _ _ rfl (by omega) h1 (by
          have : ¬ (i + j) / 2 < ahead l x := fun h => hb (hlt.2 h)
          omega) (by omega)
    · rw [if_neg (by omega)]
      have e : i = ahead l x := by omega
      by_cases hin : i < l.length
      · rw [if_pos (by omega), if_pos (by omega), if_pos (by omega), rd60_get l i hin]
        obtain ⟨r, hr, _⟩ := order_eq l[i] x k (by omega) (hf _ (List.getElem_mem hin)) hx
        rw [hr]
        simp only [Option.bind_some]
        exact ⟨_, by rw [← e]⟩
      · rw [if_neg (by omega)]
        exact ⟨_, by rw [← e]⟩
theorem search_eq (l : List S60) (x : S60) (hs : l.Pairwise fun a b => ltB a b = true) (hl : l.length ≤ 1000000) (hf : ∀ y ∈ l, 0 ≤ y.f1 ∧ y.f1 ≤ 4 ∧ 0 ≤ y.f2 ∧ y.f2 < 4503599627370496) (hx : 0 ≤ x.f1 ∧ x.f1 ≤ 4 ∧ 0 ≤ x.f2 ∧ x.f2 < 4503599627370496) (k : Nat) (hk : l.length + 6 < k) :
    ∃ b, queue_Item_30.f k l x.f0 x.f1 x.f2 0 = some (((ahead l x : Nat) : Int), b) := by
  unfold queue_Item_30.f
  exact search_l0 l x hs hl hf hx l.length k 0 l.length rfl hk (Nat.zero_le _) (ahead_le l x) (Nat.le_refl _)
/-! ### where one is -/
theorem idxFrom (id : Int) : ∀ (l : List S60) (i : Nat), (Lib.idxByFrom (fun _ (y : S60) => y.f0 == id) default l i = -1 ∧ ∀ y ∈ l, y.f0 ≠ id) ∨ ∃ m : Nat, ∃ h : m < l.length, Lib.idxByFrom (fun _ (y : S60) => y.f0 == id) default l i = ((i + m : Nat) : Int) ∧ l[m].f0 = id ∧ ∀ q : Nat, ∀ hq : q < m, l[q].f0 ≠ id := by
  intro l
  induction l with
  | nil => intro i; exact .inl ⟨rfl, by simp⟩
  | cons x l ih =>
    intro i
    unfold Lib.idxByFrom
    by_cases hx : x.f0 = id
    · rw [if_pos (by simpa using hx)]
      exact .inr ⟨0, by simp, by simp, hx, fun q hq => absurd hq (Nat.not_lt_zero _)⟩
    · rw [if_neg (by simpa using hx)]
      rcases ih (i + 1) with ⟨h1, h2⟩ | ⟨m, hm, h1, h2, h3⟩
      · exact .inl ⟨h1, by simp only [List.mem_cons, forall_eq_or_imp]; exact ⟨hx, h2⟩⟩
      · refine .inr ⟨m + 1, by simpa using hm, by rw [h1]; congr 1; omega, h2, fun q hq => ?_⟩
        cases q with
        | zero => exact hx
        | succ q => exact h3 q (by omega)
theorem idxI_cases (l : List S60) (id : Int) : (idxI l id = -1 ∧ ∀ y ∈ l, y.f0 ≠ id) ∨ ∃ m : Nat, ∃ h : m < l.length, idxI l id = (m : Int) ∧ l[m].f0 = id ∧ ∀ q : Nat, ∀ hq : q < m, l[q].f0 ≠ id := by
  rcases idxFrom id l 0 with h | ⟨m, hm, h1, h2, h3⟩
  · exact .inl h
  · exact .inr ⟨m, hm, by unfold idxI Lib.idxBy; rw [h1]; simp, h2, h3⟩
/-! ### one more -/
def insQ (l : List S60) (x : S60) : List S60 := ins l (ahead l x) x
theorem insQ_eq (l : List S60) (x : S60) : insQ l x = l.take (ahead l x) ++ x :: l.drop (ahead l x) := rfl
theorem clone_eq (l : List S60) (hl : l.length ≤ 1000000) : queue_Item_32.f l = some l := by
  unfold queue_Item_32.f
  simp only [Option.bind_some, List.nil_append, List.length_nil, Nat.zero_add]
  rw [if_pos (by omega)]
/-- May one more of an id and a priority be put? -/
def putB (n : Int) (l : List S60) (a b : Int) : Bool := decide (0 ≤ a) && decide (a ≤ 7) && decide (0 ≤ b) && decide (b ≤ 4) && (!(l.any fun y => y.f0 == a)) && decide (n ≠ 1099511627776)
theorem putB_iff (n : Int) (l : List S60) (a b : Int) : putB n l a b = true ↔ 0 ≤ a ∧ a ≤ 7 ∧ 0 ≤ b ∧ b ≤ 4 ∧ (∀ y ∈ l, y.f0 ≠ a) ∧ n ≠ 1099511627776 := by
  simp only [putB, Bool.and_eq_true, decide_eq_true_eq, Bool.not_eq_true', and_assoc, List.any_eq_false, beq_iff_eq]
theorem put_ok {n : Int} {l : List S60} (h : OkQ n l) (a b : Int) (k : Nat) (hk : 100 ≤ k) :
    queue_Put.f k n l a b = some (if putB n l a b = true then (n + 1, insQ l ⟨a, b, n⟩, true) else (n, l, false)) := by
  have hl := h.len
  have hlo := h.lo
  have hhi := h.hi
  unfold queue_Put.f
  rw [ssane_ok h k (by omega)]
  simp only [Option.bind_some]
  rw [w64 (by omega) (by omega)]
  have hm := may_eq ⟨a, b, n⟩ (n + 1) (by omega) (by omega)
  simp only at hm
  rw [hm]
  simp only [Option.bind_some]
  obtain ⟨k, rfl⟩ : ∃ m, k = m + 1 := ⟨k - 1, by omega⟩
  cases hmb : mayB ⟨a, b, n⟩ (n + 1) with
  | false =>
    have hp : putB n l a b = false := Bool.eq_false_iff.2 (fun hp => by
      have := (putB_iff n l a b).1 hp
      rw [(mayB_iff ⟨a, b, n⟩ (n + 1)).2 (by simp only; omega)] at hmb
      cases hmb)
    rw [hp]
    simp [queue_Put.j0]
  | true =>
    have hm1 := (mayB_iff ⟨a, b, n⟩ (n + 1)).1 hmb
    simp only at hm1
    simp only [if_true, queue_Queue_at.f, Option.bind_some]
    rcases idxI_cases l a with ⟨h1, h2⟩ | ⟨m, hlt, h1, h2, _⟩
    · rw [h1, if_neg (by omega)]
      simp only [queue_Put.j0]
      by_cases hn : n = 1099511627776
      · have hp : putB n l a b = false := Bool.eq_false_iff.2 (fun hp => ((putB_iff n l a b).1 hp).2.2.2.2.2 hn)
        rw [hp]
        simp [hn]
      · have hp : putB n l a b = true := (putB_iff n l a b).2 ⟨by omega, by omega, by omega, by omega, h2, hn⟩
        rw [hp, if_neg (by simpa using hn)]
        obtain ⟨q, hq⟩ := search_eq l ⟨a, b, n⟩ h.srt (by omega) (fun y hy => may_fits (h.may y hy) hhi) (by simp only; omega) k (by omega)
        simp only at hq
        rw [hq, clone_eq l (by omega)]
        simp only [Option.bind_some]
        have hins : insF l ((ahead l ⟨a, b, n⟩ : Nat) : Int) ⟨a, b, n⟩ = some (insQ l ⟨a, b, n⟩) := by
          unfold insF insQ
          have := ahead_le l ⟨a, b, n⟩
          rw [if_pos (by omega), if_pos (by omega), if_pos (by omega), Int.toNat_natCast]
        rw [hins]
        simp [w64 (x := n + 1) (by omega) (by omega)]
    · rw [h1, if_pos (by omega)]
      simp only [queue_Put.j0]
      have hp : putB n l a b = false := Bool.eq_false_iff.2 (fun hp => ((putB_iff n l a b).1 hp).2.2.2.2.1 _ (List.getElem_mem hlt) h2)
      rw [hp]
      simp
theorem mem_ins (l : List S60) (k : Nat) (x y : S60) : y ∈ ins l k x ↔ y ∈ l ∨ y = x := by
  unfold ins
  rw [List.mem_append, List.mem_cons]
  constructor
  · rintro (h | h | h)
    · exact .inl (List.mem_of_mem_take h)
    · exact .inr h
    · exact .inl (List.mem_of_mem_drop h)
  · rintro (h | h)
    · rw [← List.take_append_drop k l, List.mem_append] at h
      rcases h with h | h
      · exact .inl h
      · exact .inr (.inr h)
    · exact .inr (.inl h)
theorem ins_pairwise {R : S60 → S60 → Prop} {l : List S60} {k : Nat} {x : S60} (h : l.Pairwise R) (h1 : ∀ y ∈ l.take k, R y x) (h2 : ∀ y ∈ l.drop k, R x y) : (ins l k x).Pairwise R := by
  unfold ins
  rw [List.pairwise_append, List.pairwise_cons]
  have hh := h
  rw [← List.take_append_drop k l, List.pairwise_append] at hh
  refine ⟨hh.1, ⟨h2, hh.2.1⟩, fun y hy z hz => ?_⟩
  rcases List.mem_cons.1 hz with rfl | hz
  · exact h1 y hy
  · exact hh.2.2 y hy z hz
theorem put_OkQ {n : Int} {l : List S60} (h : OkQ n l) {a b : Int} (hp : putB n l a b = true) : OkQ (n + 1) (insQ l ⟨a, b, n⟩) := by
  have hq := (putB_iff n l a b).1 hp
  have hlo := h.lo
  have hhi := h.hi
  have ht : ∀ y ∈ l, y.f2 < n := fun y hy => by have := (mayB_iff y n).1 (h.may y hy); omega
  refine ⟨by omega, by omega, fun x hx => ?_, ?_, ?_, ?_⟩
  · rcases (mem_ins l _ _ x).1 hx with hx | rfl
    · have := (mayB_iff x n).1 (h.may x hx)
      exact (mayB_iff x _).2 (by omega)
    · exact (mayB_iff _ _).2 (by simp only; omega)
  · exact ins_pairwise h.ids (fun y hy => hq.2.2.2.2.1 y (List.mem_of_mem_take hy)) (fun y hy e => hq.2.2.2.2.1 y (List.mem_of_mem_drop hy) e.symm)
  · exact ins_pairwise h.turns (fun y hy e => by have := ht y (List.mem_of_mem_take hy); simp only at e; omega) (fun y hy e => by have := ht y (List.mem_of_mem_drop hy); simp only at e; omega)
  · refine ins_pairwise h.srt (fun y hy => ?_) (fun y hy => ?_)
    · obtain ⟨i, hi, rfl⟩ := List.mem_iff_getElem.1 hy
      rw [List.length_take] at hi
      rw [List.getElem_take]
      exact (ahead_lt h.srt _ i (by omega)).2 (by omega)
    · obtain ⟨i, hi, rfl⟩ := List.mem_iff_getElem.1 hy
      rw [List.length_drop] at hi
      rw [List.getElem_drop]
      have hge : ¬ ltB l[ahead l ⟨a, b, n⟩ + i] ⟨a, b, n⟩ = true := fun hb => by
        have := (ahead_lt h.srt ⟨a, b, n⟩ (ahead l ⟨a, b, n⟩ + i) (by omega)).1 hb
        omega
      have := ht l[ahead l ⟨a, b, n⟩ + i] (List.getElem_mem (by omega))
      rw [ltB_iff] at hge ⊢
      simp only at hge ⊢
      omega
/-! ### one less -/
theorem without_eq (n : Int) (l : List S60) (hl : l.length ≤ 1000000) (k : Nat) (hk : k < l.length) : queue_Queue_without.f n l (k : Int) = some (n, l.eraseIdx k) := by
  unfold queue_Queue_without.f
  rw [clone_eq l hl]
  simp only [Option.bind_some]
  rw [if_pos (by omega), if_pos (by omega), Int.toNat_natCast]
/-- Which place: the greatest of 0 and a, by the length. -/
def nthI (l : List S60) (a : Int) : Nat := (mx 0 a % (l.length : Int)).toNat
theorem mx_nonneg (a : Int) : 0 ≤ mx 0 a := by unfold mx; split <;> omega
theorem nthI_lt (l : List S60) (a : Int) (hl : l ≠ []) : nthI l a < l.length := by
  have h0 : 0 < l.length := List.length_pos_iff.2 hl
  have := Int.emod_lt_of_pos (mx 0 a) (show (0 : Int) < (l.length : Int) by omega)
  have := Int.emod_nonneg (mx 0 a) (show (l.length : Int) ≠ 0 by omega)
  unfold nthI
  omega
theorem nthI_cast (l : List S60) (a : Int) (hl : l ≠ []) : mx 0 a % (l.length : Int) = (nthI l a : Int) := by
  have h0 : 0 < l.length := List.length_pos_iff.2 hl
  have := Int.emod_nonneg (mx 0 a) (show (l.length : Int) ≠ 0 by omega)
  unfold nthI
  omega
theorem nth_ok {n : Int} {l : List S60} (h : OkQ n l) (a : Int) (k : Nat) (hk : 20 < k) :
    queue_Nth.f k n l a = some (if hl : l = [] then (n, l, 0, false) else (n, l.eraseIdx (nthI l a), (l[nthI l a]'(nthI_lt l a hl)).f0, true)) := by
  have hlen := h.len
  unfold queue_Nth.f
  rw [ssane_ok h k hk]
  simp only [Option.bind_some]
  by_cases hl : l = []
  · subst hl
    simp
  · have h0 : 0 < l.length := List.length_pos_iff.2 hl
    have hlt := nthI_lt l a hl
    rw [if_neg (by omega), nthI_cast l a hl, without_eq n l (by omega) _ hlt]
    simp only [Option.bind_some]
    rw [if_pos (by omega), if_pos (by omega), rd60_get l _ hlt, dif_neg hl]
theorem take_ok {n : Int} {l : List S60} (h : OkQ n l) (k : Nat) (hk : 20 < k) :
    queue_Take.f k n l = some (match l with | [] => (n, [], 0, false) | x :: r => (n, r, x.f0, true)) := by
  unfold queue_Take.f
  rw [nth_ok h 0 k hk]
  simp only [Option.bind_some]
  cases l with
  | nil => simp
  | cons x r =>
    have e : nthI (x :: r) 0 = 0 := by
      have : mx 0 0 = 0 := by decide
      unfold nthI
      rw [this]
      simp
    simp [e]
theorem take_nil (n : Int) (h : OkQ n []) (k : Nat) (hk : 20 < k) : queue_Take.f k n [] = some (n, [], 0, false) := take_ok h k hk
theorem take_cons {n : Int} {x : S60} {r : List S60} (h : OkQ n (x :: r)) (k : Nat) (hk : 20 < k) : queue_Take.f k n (x :: r) = some (n, r, x.f0, true) := take_ok h k hk
theorem tw_all {α : Type} (p : α → Bool) : ∀ l : List α, (∀ y ∈ l, p y = true) → l.takeWhile p = l
  | [], _ => rfl
  | x :: l, h => by rw [List.takeWhile_cons_of_pos (h x (by simp)), tw_all p l (fun y hy => h y (by simp [hy]))]
theorem ahead_all {l : List S60} {x : S60} (h : ∀ y ∈ l, ltB y x = true) : ahead l x = l.length := by
  unfold ahead
  rw [tw_all (fun y => ltB y x) l h]
/-! ### who is there -/
theorem ids_l0 (l : List S60) (hl : l.length ≤ 1000000) : ∀ (d k j : Nat) (acc : List Int), j ≤ l.length → l.length - j = d → d < k → acc.length ≤ j → queue_Ids.l0 k acc l (l.length : Int) (j : Int) = some (acc ++ (l.drop j).map fun x => x.f0) := by
  intro d
  induction d with
  | zero =>
    intro k j acc h1 h2 hk ha
    obtain ⟨k, rfl⟩ : ∃ m, k = m + 1 := ⟨k - 1, by omega⟩
    simp only [queue_Ids.l0]
    rw [if_neg (by omega), List.drop_of_length_le (by omega)]
    simp
  | succ d ih =>
    intro k j acc h1 h2 hk ha
    obtain ⟨k, rfl⟩ : ∃ m, k = m + 1 := ⟨k - 1, by omega⟩
    simp only [queue_Ids.l0]
    rw [if_pos (by omega), if_pos (by omega), if_pos (by omega), if_pos (by omega), w64 (by omega) (by omega), rd60_get l j (by omega)]
    have := ih k (j + 1) (acc ++ [l[j].f0]) (by omega) (by omega) (by omega) (by simp; omega)
    rw [List.drop_eq_getElem_cons (by omega), List.map_cons]
    rw [List.append_assoc] at this
    exact this
theorem ids_ok {n : Int} {l : List S60} (h : OkQ n l) (k : Nat) (hk : 20 < k) : queue_Ids.f k n l = some (l.map fun x => x.f0) := by
  have hlen := h.len
  unfold queue_Ids.f
  rw [ssane_ok h k hk]
  have := ids_l0 l (by omega) l.length k 0 [] (Nat.zero_le _) rfl (by omega) (Nat.le_refl _)
  simpa using this
theorem same4_l0 (l : List Int) (hl : l.length ≤ 1000000) : ∀ (d k j : Nat), j ≤ l.length → l.length - j = d → d < k → tenterhookref04_Same.l0 k l l (j : Int) = some true := by
  intro d
  induction d with
  | zero =>
    intro k j h1 h2 hk
    obtain ⟨k, rfl⟩ : ∃ m, k = m + 1 := ⟨k - 1, by omega⟩
    simp only [tenterhookref04_Same.l0]
    rw [if_neg (by omega)]
  | succ d ih =>
    intro k j h1 h2 hk
    obtain ⟨k, rfl⟩ : ∃ m, k = m + 1 := ⟨k - 1, by omega⟩
    simp only [tenterhookref04_Same.l0]
    rw [if_pos (by omega), if_pos (by omega), if_pos (by omega)]
    simp only [if_true]
    rw [w64 (by omega) (by omega)]
    exact ih k (j + 1) (by omega) (by omega) (by omega)
theorem same4_eq (l : List Int) (hl : l.length ≤ 1000000) (k : Nat) (hk : l.length < k) : tenterhookref04_Same.f k l l = some true := by
  unfold tenterhookref04_Same.f
  rw [if_pos rfl]
  exact same4_l0 l hl l.length k 0 (Nat.zero_le _) rfl hk
/-! ### the document's example -/
theorem awake_eq (k : Nat) (hk : 100 ≤ k) : tenterhooklaw16_awake.f k = some true := by
  have p1 : putB 0 [] 3 1 = true := by decide
  have o1 : OkQ 1 [⟨3, 1, 0⟩] := put_OkQ OkQ.zero p1
  have p2 : putB 1 [⟨3, 1, 0⟩] 5 2 = true := by decide
  have o2 : OkQ 2 [⟨5, 2, 1⟩, ⟨3, 1, 0⟩] := put_OkQ o1 p2
  have p3 : putB 2 [⟨5, 2, 1⟩, ⟨3, 1, 0⟩] 4 2 = true := by decide
  have o3 : OkQ 3 [⟨5, 2, 1⟩, ⟨4, 2, 2⟩, ⟨3, 1, 0⟩] := put_OkQ o2 p3
  unfold tenterhooklaw16_awake.f
  have e1 : queue_Put.f k 0 [] 3 1 = some (1, [⟨3, 1, 0⟩], true) := (put_ok OkQ.zero 3 1 k hk).trans rfl
  have e2 : queue_Put.f k 1 [⟨3, 1, 0⟩] 5 2 = some (2, [⟨5, 2, 1⟩, ⟨3, 1, 0⟩], true) := (put_ok o1 5 2 k hk).trans rfl
  have e3 : queue_Put.f k 2 [⟨5, 2, 1⟩, ⟨3, 1, 0⟩] 4 2 = some (3, [⟨5, 2, 1⟩, ⟨4, 2, 2⟩, ⟨3, 1, 0⟩], true) := (put_ok o2 4 2 k hk).trans rfl
  have e4 := ids_ok o3 k (by omega)
  have e5 := same4_eq [5, 4, 3] (by decide) k (by simp; omega)
  have e6 := sane_eq 3 [⟨5, 2, 1⟩, ⟨4, 2, 2⟩, ⟨3, 1, 0⟩] (by decide) k (by simp; omega)
  rw [(saneB_iff _ _).2 o3] at e6
  simp only [List.map_cons, List.map_nil] at e4
  rw [e1]; simp only [Option.bind_some]
  rw [e2]; simp only [Option.bind_some]
  rw [e3]; simp only [Option.bind_some, if_true]
  rw [e4]; simp only [Option.bind_some]
  rw [e5]; simp only [Option.bind_some, if_true]
  rw [e6]; rfl
end Go.Proofs.Ytnlnojolodnheaa.P
