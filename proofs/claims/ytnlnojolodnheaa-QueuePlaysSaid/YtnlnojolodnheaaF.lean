/-
  Whole numbers as floats: up to 2^52 the order of the floats is the order of the numbers.
-/
import Derived.Laws.Cover3
namespace Go.Proofs.YtnlnojolodnheaaF
open Ieee

/-- A float's bits stand for a whole number. -/
def Stands (b : Nat) (z : Int) : Prop := ∃ (s : Bool) (m : Nat) (i : Int), double.read b = .number s m i ∧ i ≤ 0 ∧ -1074 ≤ i ∧ signed s m 0 = z * (2 : Int) ^ (-i).toNat

theorem signed_shift (s : Bool) (m k : Nat) : signed s m k = signed s m 0 * (2 : Int) ^ k := by
  unfold signed
  simp only [Nat.shiftLeft_eq, Nat.pow_zero, Nat.mul_one]
  cases s
  · simp [Int.natCast_mul, Int.natCast_pow]
  · simp only [if_true, Int.natCast_mul, Int.natCast_pow, Int.neg_mul]; rfl

theorem cmp_scale (a b : Int) (k : Nat) : compare (a * (2 : Int) ^ k) (b * (2 : Int) ^ k) = compare a b := by
  have hp : (0 : Int) < (2 : Int) ^ k := Int.pow_pos (by omega)
  have h1 : (a * (2 : Int) ^ k < b * (2 : Int) ^ k) ↔ a < b := Int.mul_lt_mul_right hp
  have h2 : (a * (2 : Int) ^ k = b * (2 : Int) ^ k) ↔ a = b := Int.mul_eq_mul_right_iff (by omega)
  simp only [compare, compareOfLessAndEq, h1, h2]

theorem stands_order {b b' : Nat} {z z' : Int} (h : Stands b z) (h' : Stands b' z') : double.order b b' = some (compare z z') := by
  obtain ⟨s, m, i, e, hi, hl, hz⟩ := h
  obtain ⟨s', m', i', e', hi', hl', hz'⟩ := h'
  unfold Format.order
  rw [e, e']
  simp only [Datum.order]
  congr 1
  rw [signed_shift s, signed_shift s', hz, hz', Int.mul_assoc, Int.mul_assoc, ← Int.pow_add, ← Int.pow_add]
  have a1 : (-i).toNat + (i - min i i').toNat = (-(min i i')).toNat := by omega
  have a2 : (-i').toNat + (i' - min i i').toNat = (-(min i i')).toNat := by omega
  rw [a1, a2]
  exact cmp_scale z z' _

theorem stands_zero : Stands 0 0 := ⟨false, 0, -1074, by decide +kernel, by omega, by omega, by decide +kernel⟩

theorem leastPlace_double : double.leastPlace = -1074 := by decide +kernel
theorem binade_double : double.binade = 2 ^ 52 := rfl
theorem infRung_double : double.infRung = 2047 * 2 ^ 52 := by decide +kernel
theorem signWeight_double : double.signWeight = 2 ^ 63 := by decide +kernel

theorem log2_le {n : Nat} (h0 : n ≠ 0) (h : n < 2 ^ 52) : n.log2 ≤ 51 := by
  have := (Nat.log2_lt h0).2 h
  omega

/-- The word of a number that is not nought. -/
theorem nearest_pos (n : Nat) (h0 : n ≠ 0) (h : n < 2 ^ 52) : double.nearest false n 0 = (n.log2 + 1022) * 2 ^ 52 + n * 2 ^ (52 - n.log2) := by
  have hl := log2_le h0 h
  have h1 := Nat.log2_self_le h0
  have h2 : n < 2 ^ (n.log2 + 1) := Nat.lt_log2_self
  unfold Format.nearest
  rw [if_neg h0, leastPlace_double, infRung_double, binade_double]
  have e1 : max (0 + (n.log2 : Int) - (double.fractionBits : Nat)) (-1074) = (n.log2 : Int) - 52 := by
    show max (0 + (n.log2 : Int) - 52) (-1074) = _
    omega
  simp only [e1]
  have e2 : ((0 : Int) - ((n.log2 : Int) - 52)).toNat = 52 - n.log2 := by omega
  have e3 : ((n.log2 : Int) - 52 - 0).toNat = 0 := by omega
  have e4 : ((n.log2 : Int) - 52 - -1074).toNat = n.log2 + 1022 := by omega
  rw [e2, e3, e4]
  have e5 : Toward.even.cut false (n <<< (52 - n.log2)) 0 = n * 2 ^ (52 - n.log2) := by
    unfold Toward.cut
    simp only [Nat.zero_min, Nat.shiftLeft_zero, Nat.div_one, Nat.mod_one, Nat.mul_zero]
    simp [Nat.shiftLeft_eq]
  rw [e5]
  have hm : n * 2 ^ (52 - n.log2) ≤ 2 ^ 53 := by
    have := Nat.mul_le_mul_right (2 ^ (52 - n.log2)) (Nat.le_of_lt h2)
    rw [← Nat.pow_add] at this
    have e : n.log2 + 1 + (52 - n.log2) = 53 := by omega
    rwa [e] at this
  unfold Format.word
  simp only [Bool.false_eq_true, if_false]
  refine Nat.min_eq_left ?_
  refine Nat.le_trans (Nat.add_le_add (Nat.mul_le_mul_right (2 ^ 52) (show n.log2 + 1022 ≤ 1073 by omega)) hm) ?_
  exact Nat.le_of_ble_eq_true (by decide +kernel)

theorem stands_pos (n : Nat) (h0 : n ≠ 0) (h : n < 2 ^ 52) : Stands (double.nearest false n 0) n := by
  rw [nearest_pos n h0 h]
  have hl := log2_le h0 h
  have h1 := Nat.log2_self_le h0
  have h2 : n < 2 ^ (n.log2 + 1) := Nat.lt_log2_self
  have hlo : 2 ^ 52 ≤ n * 2 ^ (52 - n.log2) := by
    have := Nat.mul_le_mul_right (2 ^ (52 - n.log2)) h1
    rw [← Nat.pow_add] at this
    have e : n.log2 + (52 - n.log2) = 52 := by omega
    rwa [e] at this
  have hhi : n * 2 ^ (52 - n.log2) < 2 ^ 53 := by
    have := Nat.mul_lt_mul_of_pos_right h2 (show 0 < 2 ^ (52 - n.log2) from Nat.two_pow_pos _)
    rw [← Nat.pow_add] at this
    have e : n.log2 + 1 + (52 - n.log2) = 53 := by omega
    rwa [e] at this
  obtain ⟨m, hm⟩ : ∃ m, m = n * 2 ^ (52 - n.log2) := ⟨_, rfl⟩
  obtain ⟨l, hlx⟩ : ∃ l, l = n.log2 := ⟨_, rfl⟩
  rw [← hm] at hlo hhi ⊢
  rw [← hlx] at hl ⊢
  refine ⟨false, m, (l : Int) - 52, ?_, by omega, by omega, ?_⟩
  · unfold Format.read
    rw [signWeight_double, binade_double, infRung_double, leastPlace_double]
    have r0 : ((l + 1022) * 2 ^ 52 + m) / 2 ^ 63 = 0 := by omega
    have r1 : ((l + 1022) * 2 ^ 52 + m) % 2 ^ 63 = (l + 1022) * 2 ^ 52 + m := by omega
    rw [r0, r1]
    simp only []
    rw [if_neg (by omega), if_pos (by omega)]
    have r2 : ((l + 1022) * 2 ^ 52 + m) % 2 ^ 52 = m - 2 ^ 52 := by omega
    have r3 : ((l + 1022) * 2 ^ 52 + m) / 2 ^ 52 = l + 1023 := by omega
    rw [r2, r3]
    have r4 : 2 ^ 52 + (m - 2 ^ 52) = m := by omega
    have r5 : (-1074 : Int) + ((l + 1023 - 1 : Nat) : Int) = (l : Int) - 52 := by omega
    rw [r4, r5]
    rfl
  · have e : (-((l : Int) - 52)).toNat = 52 - n.log2 := by omega
    rw [e]
    simp only [signed, Bool.false_eq_true, if_false, Nat.shiftLeft_zero]
    rw [hm]
    simp [Int.natCast_mul, Int.natCast_pow]

/-- 'float64(n)'. -/
theorem stands_of (n : Int) (h0 : 0 ≤ n) (h : n < 2 ^ 52) : Stands (floatOfInt .f64 n) n := by
  unfold floatOfInt FloatKind.nearest FloatKind.encode Format.write
  have hn : decide (n < 0) = false := decide_eq_false (by omega)
  rw [hn]
  show Stands (double.nearest false n.natAbs 0) n
  by_cases hz : n = 0
  · subst hz
    exact stands_zero
  · have := stands_pos n.natAbs (by omega) (by omega)
    rwa [show ((n.natAbs : Nat) : Int) = n by omega] at this

/-- '-float64(n)' of a priority. -/
theorem stands_neg (n : Int) (h0 : 0 ≤ n) (h : n ≤ 4) : Stands (Op.negFloat .f64 (floatOfInt .f64 n)) (-n) := by
  have : n = 0 ∨ n = 1 ∨ n = 2 ∨ n = 3 ∨ n = 4 := by omega
  rcases this with rfl | rfl | rfl | rfl | rfl
  · exact ⟨true, 0, -1074, by decide +kernel, by omega, by omega, by decide +kernel⟩
  · exact ⟨true, 2 ^ 52, -52, by decide +kernel, by omega, by omega, by decide +kernel⟩
  · exact ⟨true, 2 ^ 52, -51, by decide +kernel, by omega, by omega, by decide +kernel⟩
  · exact ⟨true, 3 * 2 ^ 51, -51, by decide +kernel, by omega, by omega, by decide +kernel⟩
  · exact ⟨true, 2 ^ 52, -50, by decide +kernel, by omega, by omega, by decide +kernel⟩
theorem order_f64 {b b' : Nat} {z z' : Int} (h : Stands b z) (h' : Stands b' z') : FloatKind.f64.format.order b b' = some (compare z z') := stands_order h h'
end Go.Proofs.YtnlnojolodnheaaF
