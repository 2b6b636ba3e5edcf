/-
  QueueRound answers true.
-/
import Derived.Test.YtnlnojolodnheaaQ2
import Derived.Test.YtnlnojolodnheaaP18
import Derived.Laws.Bits128
namespace Go.Proofs.Ytnlnojolodnheaa.Pure
open Go.RowKit Go.Proofs.Ytnlnojolodnheaa.P Go.Proofs.YtnlnojolodnheaaX Go.Proofs.YtnlnojolodnheaaW.PrintWords Go.Proofs.YtnlnojolodnheaaW.PrintLast
set_option linter.unusedVariables false
theorem and_mask (n : Int) (m : Nat) (hm : m < 9223372036854775808) : 0 ≤ Go.bits .and .i64 n (m : Int) ∧ Go.bits .and .i64 n (m : Int) ≤ m := by
  have hle : (BitVec.ofInt 64 n &&& BitVec.ofInt 64 (m : Int)).toNat ≤ m := by
    rw [BitVec.toNat_and]
    refine Nat.le_trans Nat.and_le_right ?_
    rw [BitVec.toNat_ofInt]
    omega
  have e : Go.bits .and .i64 n (m : Int) = ((BitVec.ofInt 64 n &&& BitVec.ofInt 64 (m : Int)).toNat : Int) := by
    show IntKind.i64.wrap ((BitVec.ofInt 64 n &&& BitVec.ofInt 64 (m : Int)).toNat : Nat) = _
    rw [IntKind.wrap_i64]
    omega
  rw [e]
  omega
theorem and_maskI (n m : Int) (h0 : 0 ≤ m) (h1 : m < 9223372036854775808) : 0 ≤ Go.bits .and .i64 n m ∧ Go.bits .and .i64 n m ≤ m := by
  obtain ⟨q, rfl⟩ := Int.eq_ofNat_of_zero_le h0
  exact and_mask n q (by omega)
/-- m of them, the a-th first. -/
def seg (K : Nat) (p : Int) (a m : Nat) : List S60 := (List.range m).map fun q => ⟨((a + q) % K : Nat), p, ((a + q : Nat) : Int)⟩
theorem seg_succ (K : Nat) (p : Int) (a m : Nat) : seg K p a (m + 1) = seg K p a m ++ [⟨((a + m) % K : Nat), p, ((a + m : Nat) : Int)⟩] := by simp [seg, List.range_succ]
theorem seg_cons (K : Nat) (p : Int) (a m : Nat) : seg K p a (m + 1) = ⟨(a % K : Nat), p, (a : Int)⟩ :: seg K p (a + 1) m := by
  simp only [seg, List.range_succ_eq_map, List.map_cons, List.map_map, Nat.add_zero]
  congr 1
  apply List.map_congr_left
  intro q _
  simp only [Function.comp, Nat.succ_eq_add_one]
  rw [show a + (q + 1) = a + 1 + q by omega]
theorem mod_ne {K a i j : Nat} (hij : i < j) (hj : j < i + K) : (a + i) % K ≠ (a + j) % K := by
  intro h
  have h1 := Nat.sub_mod_eq_zero_of_mod_eq h.symm
  rw [show a + j - (a + i) = j - i by omega, Nat.mod_eq_of_lt (by omega)] at h1
  omega
theorem seg_mem (K : Nat) (p : Int) (a m : Nat) (x : S60) : x ∈ seg K p a m ↔ ∃ q, q < m ∧ x = ⟨((a + q) % K : Nat), p, ((a + q : Nat) : Int)⟩ := by
  simp only [seg, List.mem_map, List.mem_range]
  constructor
  · rintro ⟨q, h, rfl⟩; exact ⟨q, h, rfl⟩
  · rintro ⟨q, h, rfl⟩; exact ⟨q, h, rfl⟩
theorem seg_put (K : Nat) (p : Int) (a m : Nat) (hK : K ≤ 8) (hm : m < K) (h0 : 0 ≤ p) (h1 : p ≤ 4) (ha : a + m ≤ 1000000) : putB ((a + m : Nat) : Int) (seg K p a m) (((a + m) % K : Nat) : Int) p = true := by
  have := Nat.mod_lt (a + m) (show 0 < K by omega)
  refine (putB_iff _ _ _ _).2 ⟨by omega, by omega, h0, h1, fun y hy e => ?_, by omega⟩
  obtain ⟨q, hq, rfl⟩ := (seg_mem K p a m y).1 hy
  simp only at e
  exact mod_ne (a := a) hq (show m < q + K by omega) (by omega)
theorem seg_ins (K : Nat) (p : Int) (a m : Nat) : insQ (seg K p a m) ⟨((a + m) % K : Nat), p, ((a + m : Nat) : Int)⟩ = seg K p a (m + 1) := by
  have hall : P.ahead (seg K p a m) ⟨((a + m) % K : Nat), p, ((a + m : Nat) : Int)⟩ = (seg K p a m).length := ahead_all (by
    intro y hy
    obtain ⟨q, hq, rfl⟩ := (seg_mem K p a m y).1 hy
    rw [ltB_iff]
    exact .inr ⟨rfl, by simp only; omega⟩)
  rw [insQ_eq, hall, List.take_length, List.drop_length, seg_succ]
theorem seg_ok (K : Nat) (p : Int) (a : Nat) (hK : K ≤ 8) (h0 : 0 ≤ p) (h1 : p ≤ 4) : ∀ m, m ≤ K → a + m ≤ 1000000 → OkQ ((a + m : Nat) : Int) (seg K p a m)
  | 0, _, ha => ⟨by omega, by omega, by simp [seg], by simp [seg], by simp [seg], by simp [seg]⟩
  | m + 1, hm, ha => by
    have := put_OkQ (seg_ok K p a hK h0 h1 m (by omega) (by omega)) (seg_put K p a m hK (by omega) h0 h1 (by omega))
    rw [seg_ins] at this
    have e : ((a + (m + 1) : Nat) : Int) = ((a + m : Nat) : Int) + 1 := by omega
    rw [e]
    exact this
theorem round_l1 (x2 : Int) (K R : Nat) (p : Int) (hK : K ≤ 8) (hK0 : 0 < K) (h0 : 0 ≤ p) (h1 : p ≤ 4) (hR : R ≤ 1000) (hx : wrap64 (Go.bits .and .i64 x2 7 * (K : Int)) = (R : Int)) :
    ∀ (d k j : Nat), R - j = d → j ≤ R → d + 110 < k → tenterhooklaw16_QueueRound.l1 k x2 true (K : Int) p (j : Int) ((j + K : Nat) : Int) (seg K p j K) = some true := by
  intro d
  induction d with
  | zero =>
    intro k j hd hj hk
    obtain ⟨k, rfl⟩ : ∃ m, k = m + 1 := ⟨k - 1, by omega⟩
    simp only [tenterhooklaw16_QueueRound.l1]
    rw [hx, if_neg (by omega), if_pos trivial, ids_ok (seg_ok K p j hK h0 h1 K (Nat.le_refl _) (by omega)) k (by omega)]
    simp [seg]
  | succ d ih =>
    intro k j hd hj hk
    obtain ⟨k, rfl⟩ : ∃ m, k = m + 1 := ⟨k - 1, by omega⟩
    obtain ⟨q, rfl⟩ : ∃ q, K = q + 1 := ⟨K - 1, by omega⟩
    simp only [tenterhooklaw16_QueueRound.l1]
    have hsk := seg_ok (q + 1) p j hK h0 h1 (q + 1) (Nat.le_refl _) (by omega)
    rw [seg_cons] at hsk ⊢
    rw [hx, if_pos (by omega), take_cons hsk k (by omega), Option.bind_some]
    show (queue_Put.f k ((j + (q + 1) : Nat) : Int) (seg (q + 1) p (j + 1) q) ((j % (q + 1) : Nat) : Int) p).bind _ = some true
    have hok := seg_ok (q + 1) p (j + 1) hK h0 h1 q (by omega) (by omega)
    have hput := put_ok hok (((j % (q + 1) : Nat)) : Int) p k (by omega)
    have e1 : ((j + 1 + q : Nat) : Int) = ((j + (q + 1) : Nat) : Int) := by omega
    have e2 : (j + 1 + q) % (q + 1) = j % (q + 1) := by rw [show j + 1 + q = j + (q + 1) by omega, Nat.add_mod_right]
    have hpb := seg_put (q + 1) p (j + 1) q hK (by omega) h0 h1 (by omega)
    have hins := seg_ins (q + 1) p (j + 1) q
    rw [e2] at hpb hins
    rw [if_pos hpb, hins, e1] at hput
    rw [hput, Option.bind_some]
    rw [if_pos rfl, if_pos rfl, if_neg (by omega)]
    have htm : Int.tmod (j : Int) ((q + 1 : Nat) : Int) = ((j % (q + 1) : Nat) : Int) := by
      rw [Int.tmod_eq_emod_of_nonneg (by omega)]
      exact (Int.natCast_emod j (q + 1)).symm
    rw [htm, if_pos rfl, w64 (by omega) (by omega)]
    have := ih k (j + 1) (by omega) (by omega) (by omega)
    rw [show ((j + 1 : Nat) : Int) = (j : Int) + 1 by omega, show ((j + 1 + (q + 1) : Nat) : Int) = ((j + (q + 1) : Nat) : Int) + 1 by omega] at this
    exact this
theorem round_l0 (x2 : Int) (K : Nat) (p : Int) (hK : K ≤ 8) (hK0 : 0 < K) (h0 : 0 ≤ p) (h1 : p ≤ 4) (R : Nat) (hR : R ≤ 1000) (hx : wrap64 (Go.bits .and .i64 x2 7 * (K : Int)) = (R : Int)) :
    ∀ (d k i : Nat), K - i = d → i ≤ K → d + R + 115 < k → tenterhooklaw16_QueueRound.l0 k x2 true (K : Int) p (i : Int) (i : Int) (seg K p 0 i) = some true := by
  intro d
  induction d with
  | zero =>
    intro k i hd hi hk
    obtain ⟨k, rfl⟩ : ∃ m, k = m + 1 := ⟨k - 1, by omega⟩
    obtain rfl : i = K := by omega
    simp only [tenterhooklaw16_QueueRound.l0]
    rw [if_neg (by omega)]
    have := round_l1 x2 i R p hK hK0 h0 h1 hR hx R k 0 (by omega) (Nat.zero_le _) (by omega)
    simpa using this
  | succ d ih =>
    intro k i hd hi hk
    obtain ⟨k, rfl⟩ : ∃ m, k = m + 1 := ⟨k - 1, by omega⟩
    simp only [tenterhooklaw16_QueueRound.l0]
    rw [if_pos (by omega)]
    have hok := seg_ok K p 0 hK h0 h1 i (by omega) (by omega)
    have hpb := seg_put K p 0 i hK (by omega) h0 h1 (by omega)
    have hins := seg_ins K p 0 i
    rw [Nat.zero_add] at hok
    rw [Nat.zero_add, Nat.mod_eq_of_lt (by omega : i < K)] at hpb hins
    have hput := put_ok hok (i : Int) p k (by omega)
    rw [if_pos hpb, hins] at hput
    rw [hput]
    simp only [Option.bind_some, if_true]
    rw [w64 (by omega) (by omega)]
    have := ih k (i + 1) (by omega) (by omega) (by omega)
    rw [show ((i + 1 : Nat) : Int) = (i : Int) + 1 by omega] at this
    exact this
theorem QueueRound : tenterhooklaw16_QueueRound.Pure := by
  intro a0 a1 a2 _ _ _
  have h7 := and_maskI a0 7 (by omega) (by omega)
  have h3 := and_maskI a1 3 (by omega) (by omega)
  have hr := and_maskI a2 7 (by omega) (by omega)
  obtain ⟨m, hm⟩ := Int.eq_ofNat_of_zero_le h7.1
  obtain ⟨r, hrr⟩ := Int.eq_ofNat_of_zero_le hr.1
  refine ⟨2000, ?_⟩
  unfold tenterhooklaw16_QueueRound.f
  rw [awake_eq 2000 (by omega)]
  simp only [Option.bind_some]
  rw [hm] at h7 ⊢
  rw [hrr] at hr
  rw [w64 (by omega) (by omega)]
  have e : (1 : Int) + (m : Int) = ((m + 1 : Nat) : Int) := by omega
  rw [e]
  have hmul : r * (m + 1) ≤ 7 * 8 := Nat.mul_le_mul (by omega) (by omega)
  have hx : wrap64 (Go.bits .and .i64 a2 7 * ((m + 1 : Nat) : Int)) = ((r * (m + 1) : Nat) : Int) := by
    rw [hrr, ← Int.natCast_mul, w64 (by omega) (by omega)]
  have := round_l0 a2 (m + 1) (Go.bits .and .i64 a1 3) (by omega) (by omega) (by omega) (by omega) (r * (m + 1)) (by omega) hx (m + 1) 2000 0 (by omega) (Nat.zero_le _) (by omega)
  simpa [seg] using this
end Go.Proofs.Ytnlnojolodnheaa.Pure
