import Derived.RangeFuncNested
import Derived.RangeFuncBound
import Derived.RangeFuncCalls
import Derived.RangeFuncLeaves
import Derived.Shelf.Abstract
import Derived.WalkKit
import Derived.OwnWalkIn
import Derived.TacticsInMore
import Derived.LoopNIn
import Derived.LoopIn
import Derived.Test.YtekfjpnfhgbalaaL1
namespace Go.Proofs.Ytekfjpnfhgbalaa.C
open Go.Proofs.YtekfjpnfhgbalaaX Go.RowKit Go.Shelf Go.Proofs.YtekfjpnfhgbalaaW.PrintWords Go.Proofs.YtekfjpnfhgbalaaW.PrintLast Go.Proofs.YtekfjpnfhgbalaaW.PrintMore
attribute [local go_sem] Oper.semAt_some
set_option linter.unusedVariables false
set_option linter.unusedSimpArgs false

/-- The lines of a text: so many cuts at most. -/
def linesB : Nat → ByteArray → List ByteArray
  | 0, s => [s]
  | k + 1, s => if (cutLine s).2.2 = true then (cutLine s).1 :: linesB k (cutLine s).2.1 else [(cutLine s).1]

theorem cutLine_size (s : ByteArray) (h : (cutLine s).2.2 = true) : (cutLine s).2.1.size < s.size := by
  unfold cutLine at h ⊢
  split at h
  · rename_i h0
    obtain ⟨i, hi⟩ : ∃ i : Nat, Lib.indexByte s.data.toList 10 = i := ⟨(Lib.indexByte s.data.toList 10).toNat, by omega⟩
    have hlt : i < s.size := by
      have := (Lib.indexByte_some hi).1
      have := (List.getElem?_eq_some_iff.1 this).1
      simpa using this
    rw [if_pos h0, hi]
    simp [ByteArray.size_extract]
    omega
  · simp at h

/-- What is still to come, by the iterator's own variable. -/
def leftB (Bs : Nat) (wr : World) : Nat := match wr.cell? ⟨Bs, 0, none⟩ with
  | some (.string s) => s.size
  | _ => 0

set_option maxHeartbeats 2000000 in
/-- The iterator that 'split' hands back, at whatever loop body goes on. -/
theorem split_in (n : Nat) (hn : 1 ≤ n) (l Bs : Nat) (s0 : ByteArray) (hs0 : s0.size ≤ 140737488355328) (J : List ByteArray → World → Prop)
    (hJs : ∀ pre W v, J pre W → J pre (W.setCell ⟨Bs, 0, none⟩ v)) (hJd : ∀ pre W k, J pre W → J pre (W.drewN k))
    (hY : ∀ pre x W1, J pre W1 → pre.length ≤ s0.size → YieldAt Fence.wide (n - 1) Try.prog l #[.string x] W1 fun e W' =>
      e = .returned (.bool true) ∧ J (pre ++ [x]) W' ∧ W'.heap[Bs]? = W1.heap[Bs]?)
    (W : World) (hB : W.heap[Bs]? = some (.cells #[.string s0] 9 (0, 0))) (h0 : J [] W) :
    CallsIn Fence.wide n Try.prog 32 #[.func (.yield l) #[] #[], .pointer (some ⟨Bs, 0, none⟩)] W fun e W' => (∃ v, e = .returned v) ∧ J (linesB s0.size s0) W' := by
  refine callsIn_of_wp Try.func32 rfl trivial ?_ rfl
  simp only [Try.ntmps32, List.size_toArray, List.length_cons, List.length_nil, Nat.reduceAdd, Nat.reduceSub, Array.replicate_succ, Array.replicate_zero, List.push_toArray, List.append_toArray, List.nil_append, List.cons_append]
  gi_wp2
  gi_loopw [3] (fun _ wr => ∃ (pre : List ByteArray) (s : ByteArray) (k : Nat), Aside0 (J pre wr) ∧ Aside0 (wr.heap[Bs]? = some (.cells #[.string s] 9 (0, 0))) ∧ Aside0 (s.size ≤ k ∧ pre.length + k ≤ s0.size ∧ pre ++ linesB k s = linesB s0.size s0))
    (fun _ wr => leftB Bs wr)
  case atStart => exact ⟨[], s0, s0.size, ⟨h0⟩, ⟨hB⟩, ⟨Nat.le_refl _, by simp, rfl⟩⟩
  case round =>
    obtain ⟨pre, s, k, HJ, HB, HL⟩ := hrel
    have hsz : s.size ≤ 140737488355328 := by have := HL.out; omega
    have hcell : wr.cell? ⟨Bs, 0, none⟩ = some (.string s) := (blk_cell HB.out 0).trans rfl
    have hc := cut_any s wr hsz
    have HC := Aside0.mk (cutLine_size s)
    have HE : Aside0 (k ≠ 0 ∨ (cutLine s).2.2 = false) := ⟨by
      by_cases e : k = 0
      · right
        cases hq : (cutLine s).2.2 with
        | false => rfl
        | true => have := cutLine_size s hq; have := HL.out.1; omega
      · exact .inl e⟩
    have HLK : Aside0 (∀ k', k = k' + 1 → linesB k s = if (cutLine s).2.2 = true then (cutLine s).1 :: linesB k' (cutLine s).2.1 else [(cutLine s).1]) := ⟨by rintro k' rfl; rfl⟩
    have HL0 : Aside0 (k = 0 → linesB k s = [(cutLine s).1]) := ⟨by
      rintro rfl
      have h2 : (cutLine s).2.2 = false := HE.out.resolve_left (by simp)
      have : (cutLine s).1 = s := by
        unfold cutLine at h2 ⊢
        split at h2
        · simp at h2
        · rename_i h; rw [if_neg h]
      rw [this]; rfl⟩
    generalize cutLine s = c at hc HC HE HLK HL0
    obtain ⟨a, b, m⟩ := c
    cases m with
    | true =>
      obtain ⟨k', rfl⟩ : ∃ k', k = k' + 1 := ⟨k - 1, by have := HE.out; simp at this; omega⟩
      have hb' : b.size < s.size := HC.out rfl
      have HN : Aside0 (pre.length ≤ s0.size) := ⟨by have := HL.out; omega⟩
      have HM : Aside0 (leftB Bs wr = s.size) := ⟨by unfold leftB; rw [hcell]⟩
      gi_wp2_with (refine ⟨trivial, ?_⟩; gi_at_call 33; refine (callsIn_wide (n := n - 1)).2 (hc.mono ?_); rintro e w' ⟨rfl, q, rfl⟩; obtain ⟨fn, tmps, assign, body, hy, hR⟩ := hY pre a (wr.drewN q) (hJd _ _ q HJ.out) HN.out)
      refine hR.mono ?_
      rintro e W3 ⟨rfl, hJ3, hk3⟩
      have hb3 : W3.heap[Bs]? = some (.cells #[.string s] 9 (0, 0)) := hk3.trans HB.out
      have hc3 : W3.cell? ⟨Bs, 0, none⟩ = some (.string s) := (blk_cell hb3 0).trans rfl
      have hf3 : W3.frozen? ⟨Bs, 0, none⟩ = false := blk_frozen hb3 0
      gi_wp2
      have hb4 := blk_put hb3 0 (.string b) (cs' := #[.string b]) rfl
      go_roundw
      case rel =>
        refine ⟨pre ++ [a], b, k', ⟨hJs _ _ _ hJ3⟩, ⟨hb4⟩, ⟨by have := HL.out.1; omega, by have := HL.out.2.1; simp; omega, ?_⟩⟩
        rw [← HL.out.2.2, HLK.out k' rfl]
        simp
      case measure =>
        rw [HM.out]
        unfold leftB
        rw [show (W3.setCell ⟨Bs, 0, none⟩ (.string b)).cell? ⟨Bs, 0, none⟩ = some (.string b) from (blk_cell hb4 0).trans rfl]
        exact hb'
    | false =>
      have HN : Aside0 (pre.length ≤ s0.size) := ⟨by have := HL.out; omega⟩
      gi_wp2_with (refine ⟨trivial, ?_⟩; gi_at_call 33; refine (callsIn_wide (n := n - 1)).2 (hc.mono ?_); rintro e w' ⟨rfl, q, rfl⟩; obtain ⟨fn, tmps, assign, body, hy, hR⟩ := hY pre a (wr.drewN q) (hJd _ _ q HJ.out) HN.out)
      refine hR.mono ?_
      rintro e W3 ⟨rfl, hJ3, hk3⟩
      gi_wp2
      refine bodyPost_ret (results_none rfl _ _ _) rfl ?_
      refine ⟨⟨_, rfl⟩, ?_⟩
      have e : pre ++ [a] = linesB s0.size s0 := by
        rw [← HL.out.2.2]
        by_cases h0 : k = 0
        · rw [HL0.out h0]
        · obtain ⟨k', rfl⟩ : ∃ k', k = k' + 1 := ⟨k - 1, by omega⟩
          rw [HLK.out k' rfl]; rfl
      rw [← e]
      exact hJ3
end Go.Proofs.Ytekfjpnfhgbalaa.C
