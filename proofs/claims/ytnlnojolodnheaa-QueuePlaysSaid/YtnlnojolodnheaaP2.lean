-- Written by a program of this session (xprint.py, asm.py).
import Derived.Test.YtnlnojolodnheaaP0
import Derived.Test.YtnlnojolodnheaaP1
import Derived.Test.YtnlnojolodnheaaX
import Derived.Test.YtnlnojolodnheaaF
import Derived.Test.YtnlnojolodnheaaD
import Derived.Test.YtnlnojolodnheaaI
namespace Go.Proofs.Ytnlnojolodnheaa.P
open Go.Proofs.YtnlnojolodnheaaX Go.Proofs.YtnlnojolodnheaaF Go.RowKit Go.Proofs.YtnlnojolodnheaaW.PrintWords Go.Proofs.YtnlnojolodnheaaW.PrintLast Go.Proofs.YtnlnojolodnheaaW.PrintMore
attribute [local go_sem] max2_int min2_int max_two min_two max_three min_three max_four min_four   -- for this text's walks alone

set_option linter.unusedVariables false
set_option linter.unusedSimpArgs false

/-! ### queue_order: function 27 -/
/-- Which of two stands ahead: by priority, then by turn. -/
def ordI (p t q u : Int) : Int := if q < p then -1 else if p < q then 1 else if t < u then -1 else if u < t then 1 else 0
def fits (p t : Int) : Bool := decide (0 ≤ p) && decide (p ≤ 4) && decide (0 ≤ t) && decide (t < 4503599627370496)
theorem isNaN_calls (x : Nat) (z : Int) (w : World) (hx : Stands x z) : Calls Try.prog 45 #[.float .f64 x] w fun e w' => e = .returned (.bool false) ∧ w = w' := by
 have hne : (FloatKind.f64.format.order x x != some .eq) = false := by rw [order_f64 hx hx]; simp [compare, compareOfLessAndEq]
 clear hx
 go_enter Try.func45, Try.ntmps45
 go_wp2
 go_ret
 exact ⟨by simp, rfl⟩
def cmpI (z z' : Int) : Int := if z < z' then -1 else if z' < z then 1 else 0
set_option maxHeartbeats 1000000 in
theorem compare_calls (x y : Nat) (z z' : Int) (w : World) (hx : Stands x z) (hy : Stands y z') : Calls Try.prog 39 #[.float .f64 x, .float .f64 y] w fun e w' => e = .returned (.int .i64 (cmpI z z')) ∧ w = w' := by
 have h1 : (FloatKind.f64.format.order x y == some .lt) = decide (z < z') := by
  rw [order_f64 hx hy]
  simp only [compare, compareOfLessAndEq]
  by_cases h : z < z'
  ·simp [h]
  ·by_cases h' : z = z' <;> simp [h, h']
 have h2 : (FloatKind.f64.format.order x y == some .gt) = decide (z' < z) := by
  rw [order_f64 hx hy]
  simp only [compare, compareOfLessAndEq]
  by_cases h : z < z'
  ·simp [h]; omega
  ·by_cases h' : z = z'
   ·simp [h']
   ·simp [h, h']; omega
 have n1 := isNaN_calls x z
 have n2 := isNaN_calls y z'
 have HX := Aside0.mk hx
 have HY := Aside0.mk hy
 clear hx hy
 unfold cmpI
 by_cases c1 : z < z'
 ·rw [if_pos c1]
  have d1 : (FloatKind.f64.format.order x y == some .lt) = true := by rw [h1]; exact decide_eq_true c1
  clear h1 h2 c1
  go_enter Try.func39, Try.ntmps39
  go_wp2_with (first | (go_at_call 45; first | (refine (n1 _ HX.out).mono ?_; rintro e w' ⟨rfl, rfl⟩) | (refine (n2 _ HY.out).mono ?_; rintro e w' ⟨rfl, rfl⟩)) | go_in)
  go_ret
  exact ⟨rfl, rfl⟩
 ·have d1 : (FloatKind.f64.format.order x y == some .lt) = false := by rw [h1]; exact decide_eq_false c1
  rw [if_neg c1]
  by_cases c2 : z' < z
  ·rw [if_pos c2]
   have d2 : (FloatKind.f64.format.order x y == some .gt) = true := by rw [h2]; exact decide_eq_true c2
   clear h1 h2 c1 c2
   go_enter Try.func39, Try.ntmps39
   go_wp2_with (first | (go_at_call 45; first | (refine (n1 _ HX.out).mono ?_; rintro e w' ⟨rfl, rfl⟩) | (refine (n2 _ HY.out).mono ?_; rintro e w' ⟨rfl, rfl⟩)) | go_in)
   go_ret
   exact ⟨rfl, rfl⟩
  ·rw [if_neg c2]
   have d2 : (FloatKind.f64.format.order x y == some .gt) = false := by rw [h2]; exact decide_eq_false c2
   clear h1 h2 c1 c2
   go_enter Try.func39, Try.ntmps39
   go_wp2_with (first | (go_at_call 45; first | (refine (n1 _ HX.out).mono ?_; rintro e w' ⟨rfl, rfl⟩) | (refine (n2 _ HY.out).mono ?_; rintro e w' ⟨rfl, rfl⟩)) | go_in)
   go_ret
   exact ⟨rfl, rfl⟩
theorem place_calls (i p t : Int) (w : World) : Calls Try.prog 37 #[.agg #[.int .i64 i, .int .i64 p, .int .i64 t]] w fun e w' => e = .returned (.complex .f64 (Op.negFloat .f64 (floatOfInt .f64 p)) (floatOfInt .f64 t)) ∧ Below w.heap.size w w' := by
 have hneg : ∀ (b : Nat) (w : World), (Go.Op.unary .neg (.float .f64 b)).run Try.prog w = .ok (.float .f64 (Op.negFloat .f64 b)) w := fun b w => rfl
 go_enter Try.func37, Try.ntmps37
 go_wp2
 go_ret
 exact ⟨rfl, below_alloc (Below.refl _ _) _⟩
def queue_order.f (k : Nat) (a0_0 : Int) (a0_1 : Int) (a0_2 : Int) (a1_0 : Int) (a1_1 : Int) (a1_2 : Int) : Option (Int) := if fits a0_1 a0_2 = true then (if fits a1_1 a1_2 = true then (cmp_Or_int.f k [cmpI (-a0_1) (-a1_1), cmpI a0_2 a1_2]) else none) else none
theorem queue_order.mono : ∀ a0 a1 a2 a3 a4 a5 k, LeO (queue_order.f k a0 a1 a2 a3 a4 a5) (queue_order.f (k + 1) a0 a1 a2 a3 a4 a5) := by
 intro a0 a1 a2 a3 a4 a5 k
 unfold queue_order.f
 exact LeO.ite (LeO.ite (cmp_Or_int.mono _ _) (LeO.none _)) (LeO.none _)
theorem fits_stands {p t : Int} (h : fits p t = true) : Stands (Op.negFloat .f64 (floatOfInt .f64 p)) (-p) ∧ Stands (floatOfInt .f64 t) t := by
 simp only [fits, Bool.and_eq_true, decide_eq_true_eq] at h
 exact ⟨stands_neg p (by omega) (by omega), stands_of t (by omega) (by omega)⟩
theorem compare_drawn (x y : Nat) (z z' : Int) (w : World) (hx : Stands x z) (hy : Stands y z') : Calls Try.prog 39 #[.float .f64 x, .float .f64 y] w fun e w' => e = .returned (.int .i64 (cmpI z z')) ∧ Drawn0 w w' :=
 (compare_calls x y z z' w hx hy).mono fun e w' ⟨he, hw⟩ => ⟨he, hw ▸ Drawn0.refl _⟩
set_option maxHeartbeats 8000000 in
set_option maxRecDepth 100000 in
theorem queue_order.calls (k : Nat) (a0_0 : Int) (a0_1 : Int) (a0_2 : Int) (a1_0 : Int) (a1_1 : Int) (a1_2 : Int) (r : Int) (w : World) (h : queue_order.f k a0_0 a0_1 a0_2 a1_0 a1_1 a1_2 = some r) :
  Calls Try.prog 27 #[.agg #[.int .i64 a0_0, .int .i64 a0_1, .int .i64 a0_2], .agg #[.int .i64 a1_0, .int .i64 a1_1, .int .i64 a1_2]] w fun e w' => e = .returned (.int .i64 r) ∧ Below w.heap.size w w' := by
 have hu60 := Try.underlying60
 have HB := Aside0.mk (Below.refl w.heap.size w)
 unfold queue_order.f at h
 by_cases g0 : fits a0_1 a0_2 = true
 case neg => rw [if_neg g0] at h; exact absurd h (by simp)
 by_cases g1 : fits a1_1 a1_2 = true
 case neg => rw [if_pos g0, if_neg g1] at h; exact absurd h (by simp)
 rw [if_pos g0, if_pos g1] at h
 obtain ⟨ht0, hu0⟩ := fits_stands g0
 obtain ⟨ht1, hu1⟩ := fits_stands g1
 have HT0 := Aside0.mk ht0
 have HT1 := Aside0.mk ht1
 have HU0 := Aside0.mk hu0
 have HU1 := Aside0.mk hu1
 clear g0 g1 ht0 hu0 ht1 hu1
 obtain ⟨t112, h112⟩ : ∃ t, t = cmpI (-a0_1) (-a1_1) := ⟨_, rfl⟩
 obtain ⟨t113, h113⟩ : ∃ t, t = cmpI a0_2 a1_2 := ⟨_, rfl⟩
 rw [← h112, ← h113] at h
 have N112 := Aside0.mk h112
 have N113 := Aside0.mk h113
 clear h112 h113
 obtain ⟨y114, hy_⟩ : ∃ y_ : List Int, y_ = (([t112, t113] : List Int)) := ⟨_, rfl⟩
 rw [← hy_] at h
 have Ny114 := Aside0.mk hy_
 clear hy_
 have A7 := Aside0.mk h
 clear h
 go_enter Try.func27, Try.ntmps27
 try go_wp2_with (first | ((with_reducible refine gate_dst (N := 2) rfl ?_); refine box_event ?hg (N := 2) ?hd (cs := #[.int .i64 a0_0, .int .i64 a0_1, .int .i64 a0_2]) (t := 60) ?hr ?_; (case hd => rfl); (case hg => rfl); (case hr => first | (go_simp; done) | (go_simp; rfl)); intro gb108 hg w8 hbox hb; have n0_ := Aside0.mk (below_step (by repeat (first | (with_reducible first | exact HB.out | apply below_alloc | apply pw_below_drewN | apply below_drew1) | exact HB.out)) hb); have n1_ := Aside0.mk (hbox); have n2_ := Aside0.mk ((by rw [hg]; exact (below_size (by repeat (first | (with_reducible first | exact HB.out | apply below_alloc | apply pw_below_drewN | apply below_drew1) | exact HB.out))) : w.heap.size ≤ gb108)); have n3_ := Aside0.mk ((by rw [hg]; exact (below_size (by repeat (first | (with_reducible first | exact HB.out | apply below_alloc | apply pw_below_drewN | apply below_drew1) | exact HB.out))) : w.heap.size ≤ gb108)); clear HB; have HB := n0_; have BK108 := n1_; have GW108 := n2_; have GE108 := n3_; clear n0_ n1_ n2_ n3_; clear hb hbox hg) | ((with_reducible refine gate_dst (N := 3) rfl ?_); refine box_event ?hg (N := 3) ?hd (cs := #[.int .i64 a1_0, .int .i64 a1_1, .int .i64 a1_2]) (t := 60) ?hr ?_; (case hd => rfl); (case hg => rfl); (case hr => first | (go_simp; done) | (go_simp; rfl)); intro gb109 hg w9 hbox hb; have n0_ := Aside0.mk (blk_below (g := gb108) (o := .cells #[.int .i64 a0_0, .int .i64 a0_1, .int .i64 a0_2] 60 (0, 0)) (by (with_reducible repeat (first | refine blk_drewN ?_ _ | refine blk_drew ?_ | refine blk_alloc ?_ _)); exact BK108.out) hb); have n1_ := Aside0.mk (below_step (by repeat (first | (with_reducible first | exact HB.out | apply below_alloc | apply pw_below_drewN | apply below_drew1 | refine below_set ?_ GE108.out) | exact HB.out)) hb); have n2_ := Aside0.mk (hbox); have n3_ := Aside0.mk ((by rw [hg]; exact (below_size (by repeat (first | (with_reducible first | exact HB.out | apply below_alloc | apply pw_below_drewN | apply below_drew1 | refine below_set ?_ GE108.out) | exact HB.out))) : w.heap.size ≤ gb109)); have n4_ := Aside0.mk ((by rw [hg]; exact (below_size (by repeat (first | (with_reducible first | exact HB.out | apply below_alloc | apply pw_below_drewN | apply below_drew1 | refine below_set ?_ GE108.out) | exact HB.out))) : w.heap.size ≤ gb109)); have n5_ := Aside0.mk ((by rw [hg]; exact Nat.ne_of_lt (blk_lt (g := gb108) (o := .cells #[.int .i64 a0_0, .int .i64 a0_1, .int .i64 a0_2] 60 (0, 0)) (by (with_reducible repeat (first | refine blk_drewN ?_ _ | refine blk_drew ?_ | refine blk_alloc ?_ _)); exact BK108.out)) : gb108 ≠ gb109)); have n6_ := Aside0.mk ((by rw [hg]; exact Nat.ne_of_gt (blk_lt (g := gb108) (o := .cells #[.int .i64 a0_0, .int .i64 a0_1, .int .i64 a0_2] 60 (0, 0)) (by (with_reducible repeat (first | refine blk_drewN ?_ _ | refine blk_drew ?_ | refine blk_alloc ?_ _)); exact BK108.out)) : gb109 ≠ gb108)); clear BK108; clear HB; have BK108 := n0_; have HB := n1_; have BK109 := n2_; have GW109 := n3_; have GE109 := n4_; have NB108_109 := n5_; have NB109_108 := n6_; clear n0_ n1_ n2_ n3_ n4_ n5_ n6_; clear hb hbox hg))
 have n0_ := Aside0.mk (blk_drew BK108.out)
 have n1_ := Aside0.mk (blk_drew BK109.out)
 have n2_ := Aside0.mk (below_drew1 HB.out)
 clear BK108
 clear BK109
 clear HB
 have BK108 := n0_
 have BK109 := n1_
 have HB := n2_
 clear n0_ n1_ n2_
 refine start_ (n := 6) (S := fun w' => w'.cell? ⟨gb108, 0, none⟩ = some (.int .i64 a0_0) ∧ w'.cell? ⟨gb108, 1, none⟩ = some (.int .i64 a0_1) ∧ w'.cell? ⟨gb108, 2, none⟩ = some (.int .i64 a0_2) ∧ w'.cell? ⟨gb109, 0, none⟩ = some (.int .i64 a1_0) ∧ w'.cell? ⟨gb109, 1, none⟩ = some (.int .i64 a1_1) ∧ w'.cell? ⟨gb109, 2, none⟩ = some (.int .i64 a1_2)) (ds := []) #[false, false, false, false, false, false] (by kernel_rfl) rfl rfl ⟨(blk_cell BK108.out 0).trans rfl, (blk_cell BK108.out 1).trans rfl, (blk_cell BK108.out 2).trans rfl, (blk_cell BK109.out 0).trans rfl, (blk_cell BK109.out 1).trans rfl, (blk_cell BK109.out 2).trans rfl⟩ (fun hHeld => ?_)
 generalize w9.drew = w10 at BK108 BK109 HB hHeld ⊢
 refine take_ (i := 0) (N := some 7) (v := ?_) (a' := ?_) #[true, false, false, false, false, false] rfl rfl (by kernel_rfl) (fun _ _ _ h => h) (Or.inl ⟨by rfl, ?_⟩) hHeld ?_ ?_
 rotate_left
 ·rintro w' ⟨s0, s1, s2, s3, s4, s5⟩
  go_simp
  with_reducible rfl
 rotate_left
 ·simp only [Act.put, List.setIfInBounds_toArray, List.set_cons_zero, List.set_cons_succ, i64_w, i32_w]
  rfl
 refine take_ (i := 2) (N := some 9) (v := ?_) (a' := ?_) #[true, false, true, false, false, false] rfl rfl (by kernel_rfl) (fun _ _ _ h => h) (Or.inl ⟨by rfl, ?_⟩) hHeld ?_ ?_
 rotate_left
 ·rintro w' ⟨s0, s1, s2, s3, s4, s5⟩
  go_simp
  with_reducible rfl
 rotate_left
 ·simp only [Act.put, List.setIfInBounds_toArray, List.set_cons_zero, List.set_cons_succ, i64_w, i32_w]
  rfl
 refine one_ (i := 1) (N := some 8) #[true, true, true, false, false, false] rfl rfl (by kernel_rfl) (by decide) (fun K hK => ?_)
 refine goes_ Try.func37 (by kernel_rfl) rfl #[.agg #[.int .i64 a0_0, .int .i64 a0_1, .int .i64 a0_2]] (by rfl) rfl rfl (by (try simp only [List.map_toArray, List.map_cons, List.map_nil]); first | done | rfl | (simp only [List.length_drop, List.length_take]; rfl)) ?_
 with_reducible refine (place_calls a0_0 a0_1 a0_2 _).mono ?_
 rintro e w11 ⟨rfl, hb⟩
 refine ⟨_, rfl, ?_⟩
 have n0_ := Aside0.mk (blk_below (g := gb108) (o := .cells #[.int .i64 a0_0, .int .i64 a0_1, .int .i64 a0_2] 60 (0, 0)) (by (with_reducible repeat (first | refine blk_drewN ?_ _ | refine blk_drew ?_ | refine blk_alloc ?_ _)); exact BK108.out) hb)
 have n1_ := Aside0.mk (blk_below (g := gb109) (o := .cells #[.int .i64 a1_0, .int .i64 a1_1, .int .i64 a1_2] 60 (0, 0)) (by (with_reducible repeat (first | refine blk_drewN ?_ _ | refine blk_drew ?_ | refine blk_alloc ?_ _)); exact BK109.out) hb)
 have n2_ := Aside0.mk (below_step (by repeat (first | (with_reducible first | exact HB.out | apply below_alloc | apply pw_below_drewN | apply below_drew1 | refine below_set ?_ GE108.out | refine below_set ?_ GE109.out) | exact HB.out)) hb)
 clear BK108
 clear BK109
 clear HB
 have BK108 := n0_
 have BK109 := n1_
 have HB := n2_
 clear n0_ n1_ n2_
 (try clear hb)
 (try clear hb2)
 (try clear hk)
 (try clear hi)
 refine hK.out _ _ ⟨(blk_cell BK108.out 0).trans rfl, (blk_cell BK108.out 1).trans rfl, (blk_cell BK108.out 2).trans rfl, (blk_cell BK109.out 0).trans rfl, (blk_cell BK109.out 1).trans rfl, (blk_cell BK109.out 2).trans rfl⟩ (fun hHeld => ?_)
 clear hK K
 refine norm_ (a' := ?_) ?_ ?_
 rotate_left
 ·show Act.put _ (some 8) _ = _
  simp only [Act.put, List.setIfInBounds_toArray, List.set_cons_zero, List.set_cons_succ, i64_w, i32_w]
  rfl
 refine one_ (i := 3) (N := some 10) #[true, true, true, true, false, false] rfl rfl (by kernel_rfl) (by decide) (fun K hK => ?_)
 refine goes_ Try.func37 (by kernel_rfl) rfl #[.agg #[.int .i64 a1_0, .int .i64 a1_1, .int .i64 a1_2]] (by rfl) rfl rfl (by (try simp only [List.map_toArray, List.map_cons, List.map_nil]); first | done | rfl | (simp only [List.length_drop, List.length_take]; rfl)) ?_
 with_reducible refine (place_calls a1_0 a1_1 a1_2 _).mono ?_
 rintro e w12 ⟨rfl, hb⟩
 refine ⟨_, rfl, ?_⟩
 have n0_ := Aside0.mk (blk_below (g := gb108) (o := .cells #[.int .i64 a0_0, .int .i64 a0_1, .int .i64 a0_2] 60 (0, 0)) (by (with_reducible repeat (first | refine blk_drewN ?_ _ | refine blk_drew ?_ | refine blk_alloc ?_ _)); exact BK108.out) hb)
 have n1_ := Aside0.mk (blk_below (g := gb109) (o := .cells #[.int .i64 a1_0, .int .i64 a1_1, .int .i64 a1_2] 60 (0, 0)) (by (with_reducible repeat (first | refine blk_drewN ?_ _ | refine blk_drew ?_ | refine blk_alloc ?_ _)); exact BK109.out) hb)
 have n2_ := Aside0.mk (below_step (by repeat (first | (with_reducible first | exact HB.out | apply below_alloc | apply pw_below_drewN | apply below_drew1 | refine below_set ?_ GE108.out | refine below_set ?_ GE109.out) | exact HB.out)) hb)
 clear BK108
 clear BK109
 clear HB
 have BK108 := n0_
 have BK109 := n1_
 have HB := n2_
 clear n0_ n1_ n2_
 (try clear hb)
 (try clear hb2)
 (try clear hk)
 (try clear hi)
 refine hK.out _ _ ⟨(blk_cell BK108.out 0).trans rfl, (blk_cell BK108.out 1).trans rfl, (blk_cell BK108.out 2).trans rfl, (blk_cell BK109.out 0).trans rfl, (blk_cell BK109.out 1).trans rfl, (blk_cell BK109.out 2).trans rfl⟩ (fun hHeld => ?_)
 clear hK K
 refine norm_ (a' := ?_) ?_ ?_
 rotate_left
 ·show Act.put _ (some 10) _ = _
  simp only [Act.put, List.setIfInBounds_toArray, List.set_cons_zero, List.set_cons_succ, i64_w, i32_w]
  rfl
 refine pure_ (i := 4) (N := some 5) (v := ?_) (a' := ?_) #[true, true, true, true, true, false] rfl rfl (by kernel_rfl) (fun _ _ _ h => h) (Or.inl ⟨by rfl, ?_⟩) ?_ ?_
 rotate_left
 ·intro w'
  go_simp
  with_reducible rfl
 rotate_left
 ·simp only [Act.put, List.setIfInBounds_toArray, List.set_cons_zero, List.set_cons_succ, i64_w, i32_w]
  rfl
 refine pure_ (i := 5) (N := some 6) (v := ?_) (a' := ?_) #[true, true, true, true, true, true] rfl rfl (by kernel_rfl) (fun _ _ _ h => h) (Or.inl ⟨by rfl, ?_⟩) ?_ ?_
 rotate_left
 ·intro w'
  go_simp
  with_reducible rfl
 rotate_left
 ·simp only [Act.put, List.setIfInBounds_toArray, List.set_cons_zero, List.set_cons_succ, i64_w, i32_w]
  rfl
 refine done_ (by kernel_rfl) ?_
 try go_wp2_with (first | ((with_reducible refine gate_callee (f := 39) rfl ?_); refine goesL_ (some 15) rfl rfl Try.func39 (by kernel_rfl) rfl #[.float .f64 (Op.negFloat .f64 (floatOfInt .f64 a0_1)), .float .f64 (Op.negFloat .f64 (floatOfInt .f64 a1_1))] rfl (by (try simp only [List.map_toArray, List.map_cons, List.map_nil]); first | done | rfl | (simp only [List.length_drop, List.length_take]; rfl)) ?_; refine (compare_drawn _ _ (-a0_1) (-a1_1) _ HT0.out HT1.out).mono ?_; rw [← N112.out]; rintro e w' ⟨rfl, ⟨nd, rfl⟩⟩; refine ⟨_, rfl, ?_⟩) | ((with_reducible refine gate_callee (f := 39) rfl ?_); refine goesL_ (some 20) rfl rfl Try.func39 (by kernel_rfl) rfl #[.float .f64 (floatOfInt .f64 a0_2), .float .f64 (floatOfInt .f64 a1_2)] rfl (by (try simp only [List.map_toArray, List.map_cons, List.map_nil]); first | done | rfl | (simp only [List.length_drop, List.length_take]; rfl)) ?_; refine (compare_drawn _ _ a0_2 a1_2 _ HU0.out HU1.out).mono ?_; rw [← N113.out]; rintro e w' ⟨rfl, ⟨nd, rfl⟩⟩; refine ⟨_, rfl, ?_⟩) | ((with_reducible refine gate_dst (N := 21) rfl ?_); refine Kd.R_lit (Kd.int .i64) _ 3 ?hg (N := 21) ?hd (xs := ([t112, t113] : List Int)) (inner := [.int .i64 t112, .int .i64 t113]) (ok := fun _ => True) (okp := fun _ => True) ?hr ?hp (fun _ hk => hk) trivial (Below.refl _ _) (Nat.le_refl _) (by simp) ?_; (case hd => rfl); (case hg => rfl); (case hr => first | (go_simp; done) | (go_simp; rfl)); (case hp => exact (Reps.one (show Kd.M (Kd.int .i64) _ _ _ t112 [.int .i64 t112] from rfl) (Reps.one (show Kd.M (Kd.int .i64) _ _ _ t113 [.int .i64 t113] from rfl) (Reps.none _ _)))); intro v115 w13 ho14 hb hg_ hnew_; clear hg_ hnew_; (first | rw [← Ny114.out] at ho14 | (simp only [Int.reduceToNat] at ho14; rw [← Ny114.out] at ho14)); have n0_ := Aside0.mk (Kd.R_lower ho14 (below_size (by repeat (first | (with_reducible first | exact HB.out | apply below_alloc | apply pw_below_drewN | apply below_drew1 | refine below_set ?_ GE108.out | refine below_set ?_ GE109.out) | exact HB.out)))); have n1_ := Aside0.mk (blk_below (g := gb108) (o := .cells #[.int .i64 a0_0, .int .i64 a0_1, .int .i64 a0_2] 60 (0, 0)) (by (with_reducible repeat (first | refine blk_drewN ?_ _ | refine blk_drew ?_ | refine blk_alloc ?_ _)); exact BK108.out) hb); have n2_ := Aside0.mk (blk_below (g := gb109) (o := .cells #[.int .i64 a1_0, .int .i64 a1_1, .int .i64 a1_2] 60 (0, 0)) (by (with_reducible repeat (first | refine blk_drewN ?_ _ | refine blk_drew ?_ | refine blk_alloc ?_ _)); exact BK109.out) hb); have n3_ := Aside0.mk (below_step (by repeat (first | (with_reducible first | exact HB.out | apply below_alloc | apply pw_below_drewN | apply below_drew1 | refine below_set ?_ GE108.out | refine below_set ?_ GE109.out) | exact HB.out)) hb); clear BK108; clear BK109; clear HB; have HO116 := n0_; have BK108 := n1_; have BK109 := n2_; have HB := n3_; clear n0_ n1_ n2_ n3_; clear hb ho14; obtain ⟨Ao15, co15, eo15⟩ := Kd.R_slice HO116.out; subst eo15) | ((with_reducible refine gate_callee (f := 38) rfl ?_); refine goesL_ (some 22) rfl rfl Try.func38 (by kernel_rfl) rfl #[.slice Ao15 y114.length co15] rfl (by (try simp only [List.map_toArray, List.map_cons, List.map_nil]); first | done | rfl | (simp only [List.length_drop, List.length_take]; rfl)) ?_; (with_reducible refine (cmp_Or_int.calls k _ _ y114 r _ ?side1 ?side2 A7.out).mono ?_); (case side1 => repeat (first | exact (Kd.R_reads' HO116.out).2.2 | (with_reducible refine Kd.C_alloc ?_ _) | (with_reducible refine Kd.C_drewN ?_ _) | (with_reducible refine Kd.C_drew ?_))); (case side2 => exact (Kd.R_reads' HO116.out).2.1); rintro e w' ⟨rfl, ⟨nd, rfl⟩⟩; refine ⟨_, rfl, ?_⟩))
 go_ret
 exact ⟨by first | rfl | (simp [errW_none, errW_some] <;> rfl) | (simp [*, errW_none, errW_some] <;> rfl), by repeat (first | (with_reducible first | exact HB.out | apply below_alloc | apply pw_below_drewN | apply below_drew1 | refine below_set ?_ GE108.out | refine below_set ?_ GE109.out) | exact HB.out)⟩


end Go.Proofs.Ytnlnojolodnheaa.P
