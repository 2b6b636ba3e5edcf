-- Written by a program of this session (xprint.py, asm.py).
import Derived.Test.YtnlnojolodnheaaP0
import Derived.Test.YtnlnojolodnheaaP1
import Derived.Test.YtnlnojolodnheaaP4
import Derived.Test.YtnlnojolodnheaaP5
import Derived.Test.YtnlnojolodnheaaP6
import Derived.Test.YtnlnojolodnheaaP7
import Derived.Test.YtnlnojolodnheaaX
import Derived.Test.YtnlnojolodnheaaF
import Derived.Test.YtnlnojolodnheaaD
import Derived.Test.YtnlnojolodnheaaI
namespace Go.Proofs.Ytnlnojolodnheaa.P
open Go.Proofs.YtnlnojolodnheaaX Go.Proofs.YtnlnojolodnheaaF Go.RowKit Go.Proofs.YtnlnojolodnheaaW.PrintWords Go.Proofs.YtnlnojolodnheaaW.PrintLast Go.Proofs.YtnlnojolodnheaaW.PrintMore
attribute [local go_sem] max2_int min2_int max_two min_two max_three min_three max_four min_four   -- for this text's walks alone

set_option linter.unusedVariables false
set_option linter.unusedSimpArgs false

/-! ### queue_Put: function 13 -/
def queue_Put.j0 : Nat → Bool → Int → List (S60) → Int → Int → Int → Option (Int × (List (S60)) × Bool)
 | 0, _, _, _, _, _, _ => none
 | k + 1, x34, x141000, x141001, x147000, x147001, x147002 => if x34 = true then (some (x141000, x141001, false)) else ((queue_Item_30.f k x141001 x147000 x147001 x147002 0).bind fun bt149 => ((queue_Item_32.f x141001).bind fun t151 => ((insF t151 bt149.1 ⟨x147000, x147001, x147002⟩).bind fun t156 => (some (wrap64 (x141000 + 1), t156, true)))))
def queue_Put.f (k : Nat) (a0_0 : Int) (l0_1 : List (S60)) (a1 : Int) (a2 : Int) : Option (Int × (List (S60)) × Bool) := (queue_sane.f k a0_0 l0_1).bind fun bt142 => ((queue_Item_may.f a1 a2 bt142.1 (wrap64 (bt142.1 + 1))).bind fun t147 => (if t147 = true then ((queue_Queue_at.f bt142.1 bt142.2 a1).bind fun t148 => (if t148 ≥ 0 then (queue_Put.j0 k true bt142.1 bt142.2 a1 a2 bt142.1) else (queue_Put.j0 k (bt142.1 == 1099511627776) bt142.1 bt142.2 a1 a2 bt142.1))) else (queue_Put.j0 k true bt142.1 bt142.2 a1 a2 bt142.1)))
theorem queue_Put.mono_l : ∀ k, (∀ y0 y1 y2 y3 y4 y5, LeO (queue_Put.j0 k y0 y1 y2 y3 y4 y5) (queue_Put.j0 (k + 1) y0 y1 y2 y3 y4 y5))
 | 0 => fun _ _ _ _ _ _ r h => by simp [queue_Put.j0] at h
 | k + 1 => by
  have ih0 := queue_Put.mono_l k
  ·intro y0 y1 y2 y3 y4 y5
   unfold queue_Put.j0
   repeat' first
   | (with_reducible exact ih0 _ _ _ _ _ _)
   | (with_reducible exact queue_Item_30.mono _ _ _ _ _ _)
   | (with_reducible exact queue_sane.mono _ _ _)
   | (with_reducible exact LeO.refl _)
   | (with_reducible exact LeO.none _)
   | (with_reducible refine LeO.ite ?_ ?_)
   | (with_reducible refine LeO.bind ?_ (fun _ => ?_))
   | exact ih0 _ _ _ _ _ _
   | exact queue_Item_30.mono _ _ _ _ _ _
   | exact queue_sane.mono _ _ _
   | exact LeO.none _
   | refine LeO.ite ?_ ?_
   | refine LeO.bind ?_ (fun _ => ?_)
theorem queue_Put.mono : ∀ a0 a1 a2 a3 k, LeO (queue_Put.f k a0 a1 a2 a3) (queue_Put.f (k + 1) a0 a1 a2 a3) := by
 intro a0 a1 a2 a3 k
 have ih0 := queue_Put.mono_l k
 unfold queue_Put.f
 repeat' first
   | (with_reducible exact ih0 _ _ _ _ _ _)
   | (with_reducible exact queue_Item_30.mono _ _ _ _ _ _)
   | (with_reducible exact queue_sane.mono _ _ _)
   | (with_reducible exact LeO.refl _)
   | (with_reducible exact LeO.none _)
   | (with_reducible refine LeO.ite ?_ ?_)
   | (with_reducible refine LeO.bind ?_ (fun _ => ?_))
   | exact ih0 _ _ _ _ _ _
   | exact queue_Item_30.mono _ _ _ _ _ _
   | exact queue_sane.mono _ _ _
   | exact LeO.none _
   | refine LeO.ite ?_ ?_
   | refine LeO.bind ?_ (fun _ => ?_)
def queue_Put.T6 : Bool × List (List Nat × List Nat) := (true, [([], []), ([0], [0]), ([1], [1]), ([], []), ([3], [3]), ([4], [4]), ([], []), ([], []), ([7], [7]), ([5, 6, 8, 5], [5, 6, 8]), ([2, 9], [2, 9]), ([10, 9, 0, 1, 2, 3, 4, 5, 6, 7, 8, 9, 10], [10]), ([11, 0, 1, 2, 3, 4, 5, 6, 7, 8, 9, 10, 11], [])])
def queue_Put.B6 : List Nat := [0, 1, 3, 0, 8, 24, 0, 0, 128, 504, 1023, 2047, 4095]
theorem queue_Put.tab6 : rtab .any (opsOf Try.f13 6) = queue_Put.T6 := by kernel_rfl
theorem queue_Put.bits6 : waitsOk queue_Put.T6.2 queue_Put.B6 = true := by kernel_rfl
set_option maxHeartbeats 8000000 in
set_option maxRecDepth 100000 in
theorem queue_Put.calls (k : Nat) (a0_0 : Int) (P0_1_ : Nat → Prop) (A0_1 : Option Addr) (c0_1 : Nat) (l0_1 : List (S60)) (a1 : Int) (a2 : Int) (r1 : Int) (r2 : List (S60)) (r3 : Bool) (w : World) (hs0_1 : Kd.V k60 60 w w.heap.size (fun k_ => P0_1_ k_) (.slice A0_1 l0_1.length c0_1) l0_1) (h : queue_Put.f k a0_0 l0_1 a1 a2 = some (r1, r2, r3)) :
  Calls Try.prog 13 #[.agg #[.int .i64 a0_0, .slice A0_1 l0_1.length c0_1], .int .i64 a1, .int .i64 a2] w fun e w' => ∃ v1_ : Value, e = .returned (.tuple #[.agg #[.int .i64 r1, v1_], .bool r3]) ∧ Kd.V k60 60 w' w.heap.size (fun k_ => (P0_1_ k_ ∨ w.heap.size ≤ k_)) v1_ r2 ∧ Below w.heap.size w w' := by
 have hu29 := Try.underlying29
 have hu60 := Try.underlying60
 have HO0_1 := Aside0.mk (show Kd.V k60 60 w w.heap.size (fun k_ => (P0_1_ k_ ∨ w.heap.size ≤ k_)) (.slice A0_1 l0_1.length c0_1) l0_1 from Kd.V_mono hs0_1 (fun k_ hk => .inl hk))
 have HB := Aside0.mk (Below.refl w.heap.size w)
 have H : ((queue_sane.f k a0_0 l0_1).bind fun bt142 => ((queue_Item_may.f a1 a2 bt142.1 (wrap64 (bt142.1 + 1))).bind fun t147 => (if t147 = true then ((queue_Queue_at.f bt142.1 bt142.2 a1).bind fun t148 => (if t148 ≥ 0 then (queue_Put.j0 k true bt142.1 bt142.2 a1 a2 bt142.1) else (queue_Put.j0 k (bt142.1 == 1099511627776) bt142.1 bt142.2 a1 a2 bt142.1))) else (queue_Put.j0 k true bt142.1 bt142.2 a1 a2 bt142.1)))) = some (r1, r2, r3) := h
 clear h
 replace H := Option.bind_eq_some_iff.mp H
 obtain ⟨⟨t142, t143⟩, A40, H⟩ := H
 replace H : ((queue_Item_may.f a1 a2 t142 (wrap64 (t142 + 1))).bind fun t147 => (if t147 = true then ((queue_Queue_at.f t142 t143 a1).bind fun t148 => (if t148 ≥ 0 then (queue_Put.j0 k true t142 t143 a1 a2 t142) else (queue_Put.j0 k (t142 == 1099511627776) t142 t143 a1 a2 t142))) else (queue_Put.j0 k true t142 t143 a1 a2 t142))) = some (r1, r2, r3) := H
 have A4 := Aside0.mk A40
 clear A40
 have HC5 := Aside0.mk H
 clear H
 go_enter Try.func13, Try.ntmps13
 go_upto_region 3 with (first | ((with_reducible refine gate_dst (N := 3) rfl ?_); refine box_event ?hg (N := 3) ?hd (cs := #[.int .i64 a0_0, .slice A0_1 l0_1.length c0_1]) (t := 29) ?hr ?_; (case hd => rfl); (case hg => rfl); (case hr => first | (go_simp; done) | (go_simp; rfl)); intro gb140 hg w6 hbox hb; have n0_ := Aside0.mk (Kd.V_below (Kd.V_elderB (by (with_reducible repeat (first | apply Kd.V_alloc | apply Kd.V_drewN | apply Kd.V_drew)); exact HO0_1.out) gb140 (Nat.le_of_eq hg.symm)) hb); have n1_ := Aside0.mk (below_step (by repeat (first | (with_reducible first | exact HB.out | apply below_alloc | apply pw_below_drewN | apply below_drew1) | exact HB.out)) hb); have n2_ := Aside0.mk (hbox); have n3_ := Aside0.mk ((by rw [hg]; exact (below_size (by repeat (first | (with_reducible first | exact HB.out | apply below_alloc | apply pw_below_drewN | apply below_drew1) | exact HB.out))) : w.heap.size ≤ gb140)); have n4_ := Aside0.mk ((by rw [hg]; exact (below_size (by repeat (first | (with_reducible first | exact HB.out | apply below_alloc | apply pw_below_drewN | apply below_drew1) | exact HB.out))) : w.heap.size ≤ gb140)); clear HO0_1; clear HB; have HO0_1 := n0_; have HB := n1_; have BK140 := n2_; have GW140 := n3_; have GE140 := n4_; clear n0_ n1_ n2_ n3_ n4_; clear hb hbox hg) | ((with_reducible refine gate_dst (N := 6) rfl ?_); refine box_event ?hg (N := 6) ?hd (cs := #[.int .i64 0, .slice none 0 0]) (t := 29) ?hr ?_; (case hd => rfl); (case hg => rfl); (case hr => first | (go_simp; done) | (go_simp; rfl)); intro gb141 hg w7 hbox hb; have n0_ := Aside0.mk (Kd.V_below (Kd.V_elderB (by (with_reducible repeat (first | apply Kd.V_alloc | apply Kd.V_drewN | apply Kd.V_drew)); exact HO0_1.out) gb141 (Nat.le_of_eq hg.symm)) hb); have n1_ := Aside0.mk (blk_below (g := gb140) (o := .cells #[.int .i64 a0_0, .slice A0_1 l0_1.length c0_1] 29 (0, 0)) (by (with_reducible repeat (first | refine blk_drewN ?_ _ | refine blk_drew ?_ | refine blk_alloc ?_ _)); exact BK140.out) hb); have n2_ := Aside0.mk (below_step (by repeat (first | (with_reducible first | exact HB.out | apply below_alloc | apply pw_below_drewN | apply below_drew1 | refine below_set ?_ GE140.out) | exact HB.out)) hb); have n3_ := Aside0.mk (hbox); have n4_ := Aside0.mk ((by rw [hg]; exact (below_size (by repeat (first | (with_reducible first | exact HB.out | apply below_alloc | apply pw_below_drewN | apply below_drew1 | refine below_set ?_ GE140.out) | exact HB.out))) : w.heap.size ≤ gb141)); have n5_ := Aside0.mk ((by rw [hg]; exact (below_size (by repeat (first | (with_reducible first | exact HB.out | apply below_alloc | apply pw_below_drewN | apply below_drew1 | refine below_set ?_ GE140.out) | exact HB.out))) : w.heap.size ≤ gb141)); have n6_ := Aside0.mk ((by rw [hg]; exact Nat.ne_of_lt (blk_lt (g := gb140) (o := .cells #[.int .i64 a0_0, .slice A0_1 l0_1.length c0_1] 29 (0, 0)) (by (with_reducible repeat (first | refine blk_drewN ?_ _ | refine blk_drew ?_ | refine blk_alloc ?_ _)); exact BK140.out)) : gb140 ≠ gb141)); have n7_ := Aside0.mk ((by rw [hg]; exact Nat.ne_of_gt (blk_lt (g := gb140) (o := .cells #[.int .i64 a0_0, .slice A0_1 l0_1.length c0_1] 29 (0, 0)) (by (with_reducible repeat (first | refine blk_drewN ?_ _ | refine blk_drew ?_ | refine blk_alloc ?_ _)); exact BK140.out)) : gb141 ≠ gb140)); clear HO0_1; clear BK140; clear HB; have HO0_1 := n0_; have BK140 := n1_; have HB := n2_; have BK141 := n3_; have GW141 := n4_; have GE141 := n5_; have NB140_141 := n6_; have NB141_140 := n7_; clear n0_ n1_ n2_ n3_ n4_ n5_ n6_ n7_; clear hb hbox hg; have hnb8 := NB140_141.out; have hnc8 := NB141_140.out; have hcz9_0 : w7.cell? ⟨gb140, 0, none⟩ = some (.int .i64 a0_0) := (blk_cell BK140.out 0).trans rfl; have hcz9_1 : w7.cell? ⟨gb140, 1, none⟩ = some (.slice A0_1 l0_1.length c0_1) := (blk_cell BK140.out 1).trans rfl; have hfz9_0 := blk_frozen BK140.out 0; have hfz9_1 := blk_frozen BK140.out 1) | ((with_reducible refine gate_callee (f := 28) rfl ?_); refine goesL_ (some 12) rfl rfl Try.func28 (by kernel_rfl) rfl #[.agg #[.int .i64 a0_0, .slice A0_1 l0_1.length c0_1]] rfl (by (try simp only [List.map_toArray, List.map_cons, List.map_nil]); first | done | rfl | (simp only [List.length_drop, List.length_take]; rfl)) ?_; (with_reducible refine (queue_sane.calls k a0_0 (fun k_ => (((P0_1_ k_ ∨ w.heap.size ≤ k_) ∧ k_ ≠ gb140) ∧ k_ ≠ gb141)) _ _ l0_1 t142 t143 _ ?side1 A4.out).mono ?_); (case side1 => exact HO0_1.out); rintro e w10 ⟨v144, rfl, ho0, hb⟩; refine ⟨_, rfl, ?_⟩; have n0_ := Aside0.mk (Kd.V_below (by (with_reducible repeat (first | apply Kd.V_alloc | apply Kd.V_drewN | apply Kd.V_drew)); exact HO0_1.out) hb); have n1_ := Aside0.mk (Kd.V_lower (Kd.V_mono (ok' := fun k_ => (P0_1_ k_ ∨ w.heap.size ≤ k_) ∧ k_ ≠ gb140 ∧ k_ ≠ gb141) ho0 (fun k_ hk_ => ⟨Or.elim hk_ (fun hs_ => hs_.1.1) (fun hn_ => (.inr (Nat.le_trans (below_size (by repeat (first | (with_reducible first | exact HB.out | apply below_alloc | apply pw_below_drewN | apply below_drew1 | refine below_set ?_ GE140.out | refine below_set ?_ GE141.out) | exact HB.out))) hn_))), Or.elim hk_ (fun hs_ => hs_.1.2) (fun hn_ => (Kd.freshB (g := gb140) (o := .cells #[.int .i64 a0_0, .slice A0_1 l0_1.length c0_1] 29 (0, 0)) (by (with_reducible repeat (first | refine blk_drewN ?_ _ | refine blk_drew ?_ | refine blk_alloc ?_ _)); exact BK140.out) k_ hn_)), Or.elim hk_ (fun hs_ => hs_.2) (fun hn_ => (Kd.freshB (g := gb141) (o := .cells #[.int .i64 0, .slice none 0 0] 29 (0, 0)) (by (with_reducible repeat (first | refine blk_drewN ?_ _ | refine blk_drew ?_ | refine blk_alloc ?_ _)); exact BK141.out) k_ hn_))⟩)) (below_size (by repeat (first | (with_reducible first | exact HB.out | apply below_alloc | apply pw_below_drewN | apply below_drew1 | refine below_set ?_ GE140.out | refine below_set ?_ GE141.out) | exact HB.out)))); have n2_ := Aside0.mk (blk_below (g := gb140) (o := .cells #[.int .i64 a0_0, .slice A0_1 l0_1.length c0_1] 29 (0, 0)) (by (with_reducible repeat (first | refine blk_drewN ?_ _ | refine blk_drew ?_ | refine blk_alloc ?_ _)); exact BK140.out) hb); have n3_ := Aside0.mk (blk_below (g := gb141) (o := .cells #[.int .i64 0, .slice none 0 0] 29 (0, 0)) (by (with_reducible repeat (first | refine blk_drewN ?_ _ | refine blk_drew ?_ | refine blk_alloc ?_ _)); exact BK141.out) hb); have n4_ := Aside0.mk (below_step (by repeat (first | (with_reducible first | exact HB.out | apply below_alloc | apply pw_below_drewN | apply below_drew1 | refine below_set ?_ GE140.out | refine below_set ?_ GE141.out) | exact HB.out)) hb); clear HO0_1; clear BK140; clear BK141; clear HB; have HO0_1 := n0_; have HO145 := n1_; have BK140 := n2_; have BK141 := n3_; have HB := n4_; clear n0_ n1_ n2_ n3_ n4_; (try clear hb); (try clear hb2); (try clear hk); (try clear hi); (try clear ho0); have hcz11_0 : w10.cell? ⟨gb140, 0, none⟩ = some (.int .i64 a0_0) := (blk_cell BK140.out 0).trans rfl; have hcz11_1 : w10.cell? ⟨gb140, 1, none⟩ = some (.slice A0_1 l0_1.length c0_1) := (blk_cell BK140.out 1).trans rfl; have hfz11_0 := blk_frozen BK140.out 0; have hfz11_1 := blk_frozen BK140.out 1; obtain ⟨Ao12, co12, eo12⟩ := Kd.V_slice HO145.out; subst eo12) | ((with_reducible refine gate_dst (N := 8) rfl ?_); refine box_event ?hg (N := 8) ?hd (cs := #[.int .i64 0, .int .i64 0, .int .i64 0]) (t := 60) ?hr ?_; (case hd => rfl); (case hg => rfl); (case hr => first | (go_simp; done) | (go_simp; rfl)); intro gb146 hg w13 hbox hb; have n0_ := Aside0.mk (Kd.V_below (Kd.V_elderB (by (with_reducible repeat (first | apply Kd.V_alloc | apply Kd.V_drewN | apply Kd.V_drew)); exact (Kd.V_mono (Kd.V_far (p := ⟨gb140, 1, none⟩) (Kd.V_far (p := ⟨gb140, 0, none⟩) (Kd.V_mono HO0_1.out (fun k_ hk => (⟨hk, hk.1.2⟩ : _ ∧ k_ ≠ gb140))) (fun _ hk => hk.2) (.int .i64 t142)) (fun _ hk => hk.2) (.slice Ao12 t143.length co12)) (fun _ h_ => h_.1))) gb146 (Nat.le_of_eq hg.symm)) hb); have n1_ := Aside0.mk (Kd.V_below (Kd.V_elderB (by (with_reducible repeat (first | apply Kd.V_alloc | apply Kd.V_drewN | apply Kd.V_drew)); exact (Kd.V_mono (Kd.V_far (p := ⟨gb140, 1, none⟩) (Kd.V_far (p := ⟨gb140, 0, none⟩) (Kd.V_mono HO145.out (fun k_ hk => (⟨hk, hk.2.1⟩ : _ ∧ k_ ≠ gb140))) (fun _ hk => hk.2) (.int .i64 t142)) (fun _ hk => hk.2) (.slice Ao12 t143.length co12)) (fun _ h_ => h_.1))) gb146 (Nat.le_of_eq hg.symm)) hb); have n2_ := Aside0.mk (blk_below (g := gb140) (o := .cells #[.int .i64 t142, .slice Ao12 t143.length co12] 29 (0, 0)) (by (with_reducible repeat (first | refine blk_drewN ?_ _ | refine blk_drew ?_ | refine blk_alloc ?_ _)); refine blk_put (cs := #[.int .i64 t142, .slice A0_1 l0_1.length c0_1]) ?_ 1 _ rfl; (with_reducible repeat (first | refine blk_drewN ?_ _ | refine blk_drew ?_ | refine blk_alloc ?_ _)); refine blk_put (cs := #[.int .i64 a0_0, .slice A0_1 l0_1.length c0_1]) ?_ 0 _ rfl; (with_reducible repeat (first | refine blk_drewN ?_ _ | refine blk_drew ?_ | refine blk_alloc ?_ _)); exact BK140.out) hb); have n3_ := Aside0.mk (blk_below (g := gb141) (o := .cells #[.int .i64 0, .slice none 0 0] 29 (0, 0)) (by (with_reducible repeat (first | refine blk_drewN ?_ _ | refine blk_drew ?_ | refine blk_alloc ?_ _)); refine blk_far ?_ NB141_140.out _; (with_reducible repeat (first | refine blk_drewN ?_ _ | refine blk_drew ?_ | refine blk_alloc ?_ _)); refine blk_far ?_ NB141_140.out _; (with_reducible repeat (first | refine blk_drewN ?_ _ | refine blk_drew ?_ | refine blk_alloc ?_ _)); exact BK141.out) hb); have n4_ := Aside0.mk (below_step (by repeat (first | (with_reducible first | exact HB.out | apply below_alloc | apply pw_below_drewN | apply below_drew1 | refine below_set ?_ GE140.out | refine below_set ?_ GE141.out) | exact HB.out)) hb); have n5_ := Aside0.mk (hbox); have n6_ := Aside0.mk ((by rw [hg]; exact (below_size (by repeat (first | (with_reducible first | exact HB.out | apply below_alloc | apply pw_below_drewN | apply below_drew1 | refine below_set ?_ GE140.out | refine below_set ?_ GE141.out) | exact HB.out))) : w.heap.size ≤ gb146)); have n7_ := Aside0.mk ((by rw [hg]; exact (below_size (by repeat (first | (with_reducible first | exact HB.out | apply below_alloc | apply pw_below_drewN | apply below_drew1 | refine below_set ?_ GE140.out | refine below_set ?_ GE141.out) | exact HB.out))) : w.heap.size ≤ gb146)); have n8_ := Aside0.mk ((by rw [hg]; exact Nat.ne_of_lt (blk_lt (g := gb140) (o := .cells #[.int .i64 t142, .slice Ao12 t143.length co12] 29 (0, 0)) (by (with_reducible repeat (first | refine blk_drewN ?_ _ | refine blk_drew ?_ | refine blk_alloc ?_ _)); refine blk_put (cs := #[.int .i64 t142, .slice A0_1 l0_1.length c0_1]) ?_ 1 _ rfl; (with_reducible repeat (first | refine blk_drewN ?_ _ | refine blk_drew ?_ | refine blk_alloc ?_ _)); refine blk_put (cs := #[.int .i64 a0_0, .slice A0_1 l0_1.length c0_1]) ?_ 0 _ rfl; (with_reducible repeat (first | refine blk_drewN ?_ _ | refine blk_drew ?_ | refine blk_alloc ?_ _)); exact BK140.out)) : gb140 ≠ gb146)); have n9_ := Aside0.mk ((by rw [hg]; exact Nat.ne_of_gt (blk_lt (g := gb140) (o := .cells #[.int .i64 t142, .slice Ao12 t143.length co12] 29 (0, 0)) (by (with_reducible repeat (first | refine blk_drewN ?_ _ | refine blk_drew ?_ | refine blk_alloc ?_ _)); refine blk_put (cs := #[.int .i64 t142, .slice A0_1 l0_1.length c0_1]) ?_ 1 _ rfl; (with_reducible repeat (first | refine blk_drewN ?_ _ | refine blk_drew ?_ | refine blk_alloc ?_ _)); refine blk_put (cs := #[.int .i64 a0_0, .slice A0_1 l0_1.length c0_1]) ?_ 0 _ rfl; (with_reducible repeat (first | refine blk_drewN ?_ _ | refine blk_drew ?_ | refine blk_alloc ?_ _)); exact BK140.out)) : gb146 ≠ gb140)); have n10_ := Aside0.mk ((by rw [hg]; exact Nat.ne_of_lt (blk_lt (g := gb141) (o := .cells #[.int .i64 0, .slice none 0 0] 29 (0, 0)) (by (with_reducible repeat (first | refine blk_drewN ?_ _ | refine blk_drew ?_ | refine blk_alloc ?_ _)); refine blk_far ?_ NB141_140.out _; (with_reducible repeat (first | refine blk_drewN ?_ _ | refine blk_drew ?_ | refine blk_alloc ?_ _)); refine blk_far ?_ NB141_140.out _; (with_reducible repeat (first | refine blk_drewN ?_ _ | refine blk_drew ?_ | refine blk_alloc ?_ _)); exact BK141.out)) : gb141 ≠ gb146)); have n11_ := Aside0.mk ((by rw [hg]; exact Nat.ne_of_gt (blk_lt (g := gb141) (o := .cells #[.int .i64 0, .slice none 0 0] 29 (0, 0)) (by (with_reducible repeat (first | refine blk_drewN ?_ _ | refine blk_drew ?_ | refine blk_alloc ?_ _)); refine blk_far ?_ NB141_140.out _; (with_reducible repeat (first | refine blk_drewN ?_ _ | refine blk_drew ?_ | refine blk_alloc ?_ _)); refine blk_far ?_ NB141_140.out _; (with_reducible repeat (first | refine blk_drewN ?_ _ | refine blk_drew ?_ | refine blk_alloc ?_ _)); exact BK141.out)) : gb146 ≠ gb141)); clear HO0_1; clear HO145; clear BK140; clear BK141; clear HB; have HO0_1 := n0_; have HO145 := n1_; have BK140 := n2_; have BK141 := n3_; have HB := n4_; have BK146 := n5_; have GW146 := n6_; have GE146 := n7_; have NB140_146 := n8_; have NB146_140 := n9_; have NB141_146 := n10_; have NB146_141 := n11_; clear n0_ n1_ n2_ n3_ n4_ n5_ n6_ n7_ n8_ n9_ n10_ n11_; clear hb hbox hg; have hnb14 := NB146_140.out; have hnc14 := NB140_146.out; have hnb15 := NB146_141.out; have hnc15 := NB141_146.out; have hcz16_0 : w13.cell? ⟨gb146, 0, none⟩ = some (.int .i64 0) := (blk_cell BK146.out 0).trans rfl; have hcz16_1 : w13.cell? ⟨gb146, 1, none⟩ = some (.int .i64 0) := (blk_cell BK146.out 1).trans rfl; have hcz16_2 : w13.cell? ⟨gb146, 2, none⟩ = some (.int .i64 0) := (blk_cell BK146.out 2).trans rfl; have hfz16_0 := blk_frozen BK146.out 0; have hfz16_1 := blk_frozen BK146.out 1; have hfz16_2 := blk_frozen BK146.out 2))
 (try simp only [Act.put, List.setIfInBounds_toArray, List.set_cons_zero, List.set_cons_succ])
 go_cut [34] (fun v34 wc => ∃ (kq : Nat) (x34_4 : Bool), v34 = .bool x34_4 ∧ Aside0 (queue_Put.j0 kq x34_4 t142 t143 a1 a2 t142 = some (r1, r2, r3)) ∧ Aside0 (kq ≤ k) ∧ Aside0 (Kd.V k60 60 wc w.heap.size (fun k_ => (P0_1_ k_ ∨ w.heap.size ≤ k_) ∧ k_ ≠ gb140 ∧ k_ ≠ gb141 ∧ k_ ≠ gb146) (.slice Ao12 t143.length co12) t143) ∧ Aside0 (wc.heap[gb140]? = some (.cells #[.int .i64 t142, (.slice Ao12 t143.length co12)] 29 (0, 0))) ∧ Aside0 (wc.heap[gb141]? = some (.cells #[.int .i64 0, (.slice none 0 0)] 29 (0, 0))) ∧ Aside0 (wc.heap[gb146]? = some (.cells #[.int .i64 a1, .int .i64 a2, .int .i64 t142] 60 (0, 0))) ∧ Aside0 (Below w.heap.size w wc))
 case first =>
  have H := HC5.out
  clear HC5
  replace H := Option.bind_eq_some_iff.mp H
  obtain ⟨t147, A170, H⟩ := H
  replace H : (if t147 = true then ((queue_Queue_at.f t142 t143 a1).bind fun t148 => (if t148 ≥ 0 then (queue_Put.j0 k true t142 t143 a1 a2 t142) else (queue_Put.j0 k (t142 == 1099511627776) t142 t143 a1 a2 t142))) else (queue_Put.j0 k true t142 t143 a1 a2 t142)) = some (r1, r2, r3) := H
  have A17 := Aside0.mk A170
  clear A170
  by_cases c18 : t147 = true
  ·subst c18
   have H1 : ((queue_Queue_at.f t142 t143 a1).bind fun t148 => (if t148 ≥ 0 then (queue_Put.j0 k true t142 t143 a1 a2 t142) else (queue_Put.j0 k (t142 == 1099511627776) t142 t143 a1 a2 t142))) = some (r1, r2, r3) := by rw [if_pos rfl] at H; exact H
   clear H
   have H := H1
   clear H1
   replace H := Option.bind_eq_some_iff.mp H
   obtain ⟨t148, A190, H⟩ := H
   replace H : (if t148 ≥ 0 then (queue_Put.j0 k true t142 t143 a1 a2 t142) else (queue_Put.j0 k (t142 == 1099511627776) t142 t143 a1 a2 t142)) = some (r1, r2, r3) := H
   have A19 := Aside0.mk A190
   clear A190
   by_cases c20 : t148 ≥ 0
   ·rw [if_pos c20] at H
    have c20b0 : decide (0 ≤ t148) = true := decide_eq_true c20
    clear c20
    (first | rw [c20b0] | (simp only [i64_w, i32_w]; rw [c20b0]) | skip)
    have H' := Aside0.mk H
    clear H
    have hnb21 := NB146_140.out
    have hnc21 := NB140_146.out
    have hnb22 := NB146_141.out
    have hnc22 := NB141_146.out
    have hcz23_0 : w13.cell? ⟨gb146, 0, none⟩ = some (.int .i64 0) := (blk_cell BK146.out 0).trans rfl
    have hcz23_1 : w13.cell? ⟨gb146, 1, none⟩ = some (.int .i64 0) := (blk_cell BK146.out 1).trans rfl
    have hcz23_2 : w13.cell? ⟨gb146, 2, none⟩ = some (.int .i64 0) := (blk_cell BK146.out 2).trans rfl
    have hfz23_0 := blk_frozen BK146.out 0
    have hfz23_1 := blk_frozen BK146.out 1
    have hfz23_2 := blk_frozen BK146.out 2
    have hnb24 := NB140_141.out
    have hnc24 := NB141_140.out
    have hcz25_0 : w13.cell? ⟨gb140, 0, none⟩ = some (.int .i64 t142) := (blk_cell BK140.out 0).trans rfl
    have hcz25_1 : w13.cell? ⟨gb140, 1, none⟩ = some (.slice Ao12 t143.length co12) := (blk_cell BK140.out 1).trans rfl
    have hfz25_0 := blk_frozen BK140.out 0
    have hfz25_1 := blk_frozen BK140.out 1
    go_wp2_with (first | ((with_reducible refine gate_callee (f := 26) rfl ?_); refine goesL_ (some 22) rfl rfl Try.func26 (by kernel_rfl) rfl #[.agg #[.int .i64 a1, .int .i64 a2, .int .i64 t142], .int .i64 (wrap64 (t142 + 1))] rfl (by (try simp only [List.map_toArray, List.map_cons, List.map_nil]); first | done | rfl | (simp only [List.length_drop, List.length_take]; rfl)) ?_; (with_reducible refine (queue_Item_may.calls a1 a2 t142 (wrap64 (t142 + 1)) true _ A17.out).mono ?_); rintro e w26 ⟨rfl, hb⟩; refine ⟨_, rfl, ?_⟩; have n0_ := Aside0.mk (Kd.V_below (by (with_reducible repeat (first | apply Kd.V_alloc | apply Kd.V_drewN | apply Kd.V_drew)); exact (Kd.V_mono (Kd.V_far (p := ⟨gb146, 2, none⟩) (Kd.V_far (p := ⟨gb146, 1, none⟩) (Kd.V_far (p := ⟨gb146, 0, none⟩) (Kd.V_mono HO0_1.out (fun k_ hk => (⟨hk, hk.2⟩ : _ ∧ k_ ≠ gb146))) (fun _ hk => hk.2) (.int .i64 a1)) (fun _ hk => hk.2) (.int .i64 a2)) (fun _ hk => hk.2) (.int .i64 t142)) (fun _ h_ => h_.1))) hb); have n1_ := Aside0.mk (Kd.V_below (by (with_reducible repeat (first | apply Kd.V_alloc | apply Kd.V_drewN | apply Kd.V_drew)); exact (Kd.V_mono (Kd.V_far (p := ⟨gb146, 2, none⟩) (Kd.V_far (p := ⟨gb146, 1, none⟩) (Kd.V_far (p := ⟨gb146, 0, none⟩) (Kd.V_mono HO145.out (fun k_ hk => (⟨hk, hk.2⟩ : _ ∧ k_ ≠ gb146))) (fun _ hk => hk.2) (.int .i64 a1)) (fun _ hk => hk.2) (.int .i64 a2)) (fun _ hk => hk.2) (.int .i64 t142)) (fun _ h_ => h_.1))) hb); have n2_ := Aside0.mk (blk_below (g := gb140) (o := .cells #[.int .i64 t142, .slice Ao12 t143.length co12] 29 (0, 0)) (by (with_reducible repeat (first | refine blk_drewN ?_ _ | refine blk_drew ?_ | refine blk_alloc ?_ _)); refine blk_far ?_ NB140_146.out _; (with_reducible repeat (first | refine blk_drewN ?_ _ | refine blk_drew ?_ | refine blk_alloc ?_ _)); refine blk_far ?_ NB140_146.out _; (with_reducible repeat (first | refine blk_drewN ?_ _ | refine blk_drew ?_ | refine blk_alloc ?_ _)); refine blk_far ?_ NB140_146.out _; (with_reducible repeat (first | refine blk_drewN ?_ _ | refine blk_drew ?_ | refine blk_alloc ?_ _)); exact BK140.out) hb); have n3_ := Aside0.mk (blk_below (g := gb141) (o := .cells #[.int .i64 0, .slice none 0 0] 29 (0, 0)) (by (with_reducible repeat (first | refine blk_drewN ?_ _ | refine blk_drew ?_ | refine blk_alloc ?_ _)); refine blk_far ?_ NB141_146.out _; (with_reducible repeat (first | refine blk_drewN ?_ _ | refine blk_drew ?_ | refine blk_alloc ?_ _)); refine blk_far ?_ NB141_146.out _; (with_reducible repeat (first | refine blk_drewN ?_ _ | refine blk_drew ?_ | refine blk_alloc ?_ _)); refine blk_far ?_ NB141_146.out _; (with_reducible repeat (first | refine blk_drewN ?_ _ | refine blk_drew ?_ | refine blk_alloc ?_ _)); exact BK141.out) hb); have n4_ := Aside0.mk (blk_below (g := gb146) (o := .cells #[.int .i64 a1, .int .i64 a2, .int .i64 t142] 60 (0, 0)) (by (with_reducible repeat (first | refine blk_drewN ?_ _ | refine blk_drew ?_ | refine blk_alloc ?_ _)); refine blk_put (cs := #[.int .i64 a1, .int .i64 a2, .int .i64 0]) ?_ 2 _ rfl; (with_reducible repeat (first | refine blk_drewN ?_ _ | refine blk_drew ?_ | refine blk_alloc ?_ _)); refine blk_put (cs := #[.int .i64 a1, .int .i64 0, .int .i64 0]) ?_ 1 _ rfl; (with_reducible repeat (first | refine blk_drewN ?_ _ | refine blk_drew ?_ | refine blk_alloc ?_ _)); refine blk_put (cs := #[.int .i64 0, .int .i64 0, .int .i64 0]) ?_ 0 _ rfl; (with_reducible repeat (first | refine blk_drewN ?_ _ | refine blk_drew ?_ | refine blk_alloc ?_ _)); exact BK146.out) hb); have n5_ := Aside0.mk (below_step (by repeat (first | (with_reducible first | exact HB.out | apply below_alloc | apply pw_below_drewN | apply below_drew1 | refine below_set ?_ GE140.out | refine below_set ?_ GE141.out | refine below_set ?_ GE146.out) | exact HB.out)) hb); clear HO0_1; clear HO145; clear BK140; clear BK141; clear BK146; clear HB; have HO0_1 := n0_; have HO145 := n1_; have BK140 := n2_; have BK141 := n3_; have BK146 := n4_; have HB := n5_; clear n0_ n1_ n2_ n3_ n4_ n5_; (try clear hb); (try clear hb2); (try clear hk); (try clear hi); have hcz27_0 : w26.cell? ⟨gb140, 0, none⟩ = some (.int .i64 t142) := (blk_cell BK140.out 0).trans rfl; have hcz27_1 : w26.cell? ⟨gb140, 1, none⟩ = some (.slice Ao12 t143.length co12) := (blk_cell BK140.out 1).trans rfl; have hfz27_0 := blk_frozen BK140.out 0; have hfz27_1 := blk_frozen BK140.out 1) | (go_at_call 29; (with_reducible refine (queue_Queue_at.calls t142 _ _ t143 a1 t148 _ ?side1 ?side2 A19.out).mono ?_); (case side1 => repeat (first | exact (Kd.V_reads' HO145.out).2.2 | (with_reducible refine Kd.C_alloc ?_ _) | (with_reducible refine Kd.C_drewN ?_ _) | (with_reducible refine Kd.C_drew ?_))); (case side2 => exact (Kd.V_reads' HO145.out).2.1); rintro e w28 ⟨rfl, hb⟩; have n0_ := Aside0.mk (Kd.V_below (by (with_reducible repeat (first | apply Kd.V_alloc | apply Kd.V_drewN | apply Kd.V_drew)); exact HO0_1.out) hb); have n1_ := Aside0.mk (Kd.V_below (by (with_reducible repeat (first | apply Kd.V_alloc | apply Kd.V_drewN | apply Kd.V_drew)); exact HO145.out) hb); have n2_ := Aside0.mk (blk_below (g := gb140) (o := .cells #[.int .i64 t142, .slice Ao12 t143.length co12] 29 (0, 0)) (by (with_reducible repeat (first | refine blk_drewN ?_ _ | refine blk_drew ?_ | refine blk_alloc ?_ _)); exact BK140.out) hb); have n3_ := Aside0.mk (blk_below (g := gb141) (o := .cells #[.int .i64 0, .slice none 0 0] 29 (0, 0)) (by (with_reducible repeat (first | refine blk_drewN ?_ _ | refine blk_drew ?_ | refine blk_alloc ?_ _)); exact BK141.out) hb); have n4_ := Aside0.mk (blk_below (g := gb146) (o := .cells #[.int .i64 a1, .int .i64 a2, .int .i64 t142] 60 (0, 0)) (by (with_reducible repeat (first | refine blk_drewN ?_ _ | refine blk_drew ?_ | refine blk_alloc ?_ _)); exact BK146.out) hb); have n5_ := Aside0.mk (below_step (by repeat (first | (with_reducible first | exact HB.out | apply below_alloc | apply pw_below_drewN | apply below_drew1 | refine below_set ?_ GE140.out | refine below_set ?_ GE141.out | refine below_set ?_ GE146.out) | exact HB.out)) hb); clear HO0_1; clear HO145; clear BK140; clear BK141; clear BK146; clear HB; have HO0_1 := n0_; have HO145 := n1_; have BK140 := n2_; have BK141 := n3_; have BK146 := n4_; have HB := n5_; clear n0_ n1_ n2_ n3_ n4_ n5_; (try clear hb); (try clear hb2); (try clear hk); (try clear hi)))
    go_meet
    case rel => exact ⟨_, (true), (by first | rfl | (simp; done) | (simp [*]; done)), H', ⟨by first | omega | exact Nat.le_refl _⟩, ⟨by (with_reducible repeat (first | apply Kd.V_alloc | apply Kd.V_drewN | apply Kd.V_drew)); exact Kd.V_mono HO145.out (fun _ hk => ⟨hk.1.1, ⟨hk.1.2.1, ⟨hk.1.2.2, hk.2⟩⟩⟩)⟩, ⟨by (with_reducible repeat (first | refine blk_drewN ?_ _ | refine blk_drew ?_ | refine blk_alloc ?_ _)); exact BK140.out⟩, ⟨by (with_reducible repeat (first | refine blk_drewN ?_ _ | refine blk_drew ?_ | refine blk_alloc ?_ _)); exact BK141.out⟩, ⟨by (with_reducible repeat (first | refine blk_drewN ?_ _ | refine blk_drew ?_ | refine blk_alloc ?_ _)); exact BK146.out⟩, ⟨by repeat (first | (with_reducible first | exact HB.out | apply below_alloc | apply pw_below_drewN | apply below_drew1 | refine below_set ?_ GE140.out | refine below_set ?_ GE141.out | refine below_set ?_ GE146.out) | exact HB.out)⟩⟩
   ·rw [if_neg c20] at H
    have c20b0 : decide (0 ≤ t148) = false := decide_eq_false c20
    clear c20
    (first | rw [c20b0] | (simp only [i64_w, i32_w]; rw [c20b0]) | skip)
    have H' := Aside0.mk H
    clear H
    have hnb29 := NB146_140.out
    have hnc29 := NB140_146.out
    have hnb30 := NB146_141.out
    have hnc30 := NB141_146.out
    have hcz31_0 : w13.cell? ⟨gb146, 0, none⟩ = some (.int .i64 0) := (blk_cell BK146.out 0).trans rfl
    have hcz31_1 : w13.cell? ⟨gb146, 1, none⟩ = some (.int .i64 0) := (blk_cell BK146.out 1).trans rfl
    have hcz31_2 : w13.cell? ⟨gb146, 2, none⟩ = some (.int .i64 0) := (blk_cell BK146.out 2).trans rfl
    have hfz31_0 := blk_frozen BK146.out 0
    have hfz31_1 := blk_frozen BK146.out 1
    have hfz31_2 := blk_frozen BK146.out 2
    have hnb32 := NB140_141.out
    have hnc32 := NB141_140.out
    have hcz33_0 : w13.cell? ⟨gb140, 0, none⟩ = some (.int .i64 t142) := (blk_cell BK140.out 0).trans rfl
    have hcz33_1 : w13.cell? ⟨gb140, 1, none⟩ = some (.slice Ao12 t143.length co12) := (blk_cell BK140.out 1).trans rfl
    have hfz33_0 := blk_frozen BK140.out 0
    have hfz33_1 := blk_frozen BK140.out 1
    go_wp2_with (first | ((with_reducible refine gate_callee (f := 26) rfl ?_); refine goesL_ (some 22) rfl rfl Try.func26 (by kernel_rfl) rfl #[.agg #[.int .i64 a1, .int .i64 a2, .int .i64 t142], .int .i64 (wrap64 (t142 + 1))] rfl (by (try simp only [List.map_toArray, List.map_cons, List.map_nil]); first | done | rfl | (simp only [List.length_drop, List.length_take]; rfl)) ?_; (with_reducible refine (queue_Item_may.calls a1 a2 t142 (wrap64 (t142 + 1)) true _ A17.out).mono ?_); rintro e w34 ⟨rfl, hb⟩; refine ⟨_, rfl, ?_⟩; have n0_ := Aside0.mk (Kd.V_below (by (with_reducible repeat (first | apply Kd.V_alloc | apply Kd.V_drewN | apply Kd.V_drew)); exact (Kd.V_mono (Kd.V_far (p := ⟨gb146, 2, none⟩) (Kd.V_far (p := ⟨gb146, 1, none⟩) (Kd.V_far (p := ⟨gb146, 0, none⟩) (Kd.V_mono HO0_1.out (fun k_ hk => (⟨hk, hk.2⟩ : _ ∧ k_ ≠ gb146))) (fun _ hk => hk.2) (.int .i64 a1)) (fun _ hk => hk.2) (.int .i64 a2)) (fun _ hk => hk.2) (.int .i64 t142)) (fun _ h_ => h_.1))) hb); have n1_ := Aside0.mk (Kd.V_below (by (with_reducible repeat (first | apply Kd.V_alloc | apply Kd.V_drewN | apply Kd.V_drew)); exact (Kd.V_mono (Kd.V_far (p := ⟨gb146, 2, none⟩) (Kd.V_far (p := ⟨gb146, 1, none⟩) (Kd.V_far (p := ⟨gb146, 0, none⟩) (Kd.V_mono HO145.out (fun k_ hk => (⟨hk, hk.2⟩ : _ ∧ k_ ≠ gb146))) (fun _ hk => hk.2) (.int .i64 a1)) (fun _ hk => hk.2) (.int .i64 a2)) (fun _ hk => hk.2) (.int .i64 t142)) (fun _ h_ => h_.1))) hb); have n2_ := Aside0.mk (blk_below (g := gb140) (o := .cells #[.int .i64 t142, .slice Ao12 t143.length co12] 29 (0, 0)) (by (with_reducible repeat (first | refine blk_drewN ?_ _ | refine blk_drew ?_ | refine blk_alloc ?_ _)); refine blk_far ?_ NB140_146.out _; (with_reducible repeat (first | refine blk_drewN ?_ _ | refine blk_drew ?_ | refine blk_alloc ?_ _)); refine blk_far ?_ NB140_146.out _; (with_reducible repeat (first | refine blk_drewN ?_ _ | refine blk_drew ?_ | refine blk_alloc ?_ _)); refine blk_far ?_ NB140_146.out _; (with_reducible repeat (first | refine blk_drewN ?_ _ | refine blk_drew ?_ | refine blk_alloc ?_ _)); exact BK140.out) hb); have n3_ := Aside0.mk (blk_below (g := gb141) (o := .cells #[.int .i64 0, .slice none 0 0] 29 (0, 0)) (by (with_reducible repeat (first | refine blk_drewN ?_ _ | refine blk_drew ?_ | refine blk_alloc ?_ _)); refine blk_far ?_ NB141_146.out _; (with_reducible repeat (first | refine blk_drewN ?_ _ | refine blk_drew ?_ | refine blk_alloc ?_ _)); refine blk_far ?_ NB141_146.out _; (with_reducible repeat (first | refine blk_drewN ?_ _ | refine blk_drew ?_ | refine blk_alloc ?_ _)); refine blk_far ?_ NB141_146.out _; (with_reducible repeat (first | refine blk_drewN ?_ _ | refine blk_drew ?_ | refine blk_alloc ?_ _)); exact BK141.out) hb); have n4_ := Aside0.mk (blk_below (g := gb146) (o := .cells #[.int .i64 a1, .int .i64 a2, .int .i64 t142] 60 (0, 0)) (by (with_reducible repeat (first | refine blk_drewN ?_ _ | refine blk_drew ?_ | refine blk_alloc ?_ _)); refine blk_put (cs := #[.int .i64 a1, .int .i64 a2, .int .i64 0]) ?_ 2 _ rfl; (with_reducible repeat (first | refine blk_drewN ?_ _ | refine blk_drew ?_ | refine blk_alloc ?_ _)); refine blk_put (cs := #[.int .i64 a1, .int .i64 0, .int .i64 0]) ?_ 1 _ rfl; (with_reducible repeat (first | refine blk_drewN ?_ _ | refine blk_drew ?_ | refine blk_alloc ?_ _)); refine blk_put (cs := #[.int .i64 0, .int .i64 0, .int .i64 0]) ?_ 0 _ rfl; (with_reducible repeat (first | refine blk_drewN ?_ _ | refine blk_drew ?_ | refine blk_alloc ?_ _)); exact BK146.out) hb); have n5_ := Aside0.mk (below_step (by repeat (first | (with_reducible first | exact HB.out | apply below_alloc | apply pw_below_drewN | apply below_drew1 | refine below_set ?_ GE140.out | refine below_set ?_ GE141.out | refine below_set ?_ GE146.out) | exact HB.out)) hb); clear HO0_1; clear HO145; clear BK140; clear BK141; clear BK146; clear HB; have HO0_1 := n0_; have HO145 := n1_; have BK140 := n2_; have BK141 := n3_; have BK146 := n4_; have HB := n5_; clear n0_ n1_ n2_ n3_ n4_ n5_; (try clear hb); (try clear hb2); (try clear hk); (try clear hi); have hcz35_0 : w34.cell? ⟨gb140, 0, none⟩ = some (.int .i64 t142) := (blk_cell BK140.out 0).trans rfl; have hcz35_1 : w34.cell? ⟨gb140, 1, none⟩ = some (.slice Ao12 t143.length co12) := (blk_cell BK140.out 1).trans rfl; have hfz35_0 := blk_frozen BK140.out 0; have hfz35_1 := blk_frozen BK140.out 1) | (go_at_call 29; (with_reducible refine (queue_Queue_at.calls t142 _ _ t143 a1 t148 _ ?side1 ?side2 A19.out).mono ?_); (case side1 => repeat (first | exact (Kd.V_reads' HO145.out).2.2 | (with_reducible refine Kd.C_alloc ?_ _) | (with_reducible refine Kd.C_drewN ?_ _) | (with_reducible refine Kd.C_drew ?_))); (case side2 => exact (Kd.V_reads' HO145.out).2.1); rintro e w36 ⟨rfl, hb⟩; have n0_ := Aside0.mk (Kd.V_below (by (with_reducible repeat (first | apply Kd.V_alloc | apply Kd.V_drewN | apply Kd.V_drew)); exact HO0_1.out) hb); have n1_ := Aside0.mk (Kd.V_below (by (with_reducible repeat (first | apply Kd.V_alloc | apply Kd.V_drewN | apply Kd.V_drew)); exact HO145.out) hb); have n2_ := Aside0.mk (blk_below (g := gb140) (o := .cells #[.int .i64 t142, .slice Ao12 t143.length co12] 29 (0, 0)) (by (with_reducible repeat (first | refine blk_drewN ?_ _ | refine blk_drew ?_ | refine blk_alloc ?_ _)); exact BK140.out) hb); have n3_ := Aside0.mk (blk_below (g := gb141) (o := .cells #[.int .i64 0, .slice none 0 0] 29 (0, 0)) (by (with_reducible repeat (first | refine blk_drewN ?_ _ | refine blk_drew ?_ | refine blk_alloc ?_ _)); exact BK141.out) hb); have n4_ := Aside0.mk (blk_below (g := gb146) (o := .cells #[.int .i64 a1, .int .i64 a2, .int .i64 t142] 60 (0, 0)) (by (with_reducible repeat (first | refine blk_drewN ?_ _ | refine blk_drew ?_ | refine blk_alloc ?_ _)); exact BK146.out) hb); have n5_ := Aside0.mk (below_step (by repeat (first | (with_reducible first | exact HB.out | apply below_alloc | apply pw_below_drewN | apply below_drew1 | refine below_set ?_ GE140.out | refine below_set ?_ GE141.out | refine below_set ?_ GE146.out) | exact HB.out)) hb); clear HO0_1; clear HO145; clear BK140; clear BK141; clear BK146; clear HB; have HO0_1 := n0_; have HO145 := n1_; have BK140 := n2_; have BK141 := n3_; have BK146 := n4_; have HB := n5_; clear n0_ n1_ n2_ n3_ n4_ n5_; (try clear hb); (try clear hb2); (try clear hk); (try clear hi); have hcz37_0 : w36.cell? ⟨gb140, 0, none⟩ = some (.int .i64 t142) := (blk_cell BK140.out 0).trans rfl; have hcz37_1 : w36.cell? ⟨gb140, 1, none⟩ = some (.slice Ao12 t143.length co12) := (blk_cell BK140.out 1).trans rfl; have hfz37_0 := blk_frozen BK140.out 0; have hfz37_1 := blk_frozen BK140.out 1))
    go_meet
    case rel => exact ⟨_, ((t142 == 1099511627776)), (by first | rfl | (simp; done) | (simp [*]; done)), H', ⟨by first | omega | exact Nat.le_refl _⟩, ⟨by (with_reducible repeat (first | apply Kd.V_alloc | apply Kd.V_drewN | apply Kd.V_drew)); exact Kd.V_mono HO145.out (fun _ hk => ⟨hk.1.1, ⟨hk.1.2.1, ⟨hk.1.2.2, hk.2⟩⟩⟩)⟩, ⟨by (with_reducible repeat (first | refine blk_drewN ?_ _ | refine blk_drew ?_ | refine blk_alloc ?_ _)); exact BK140.out⟩, ⟨by (with_reducible repeat (first | refine blk_drewN ?_ _ | refine blk_drew ?_ | refine blk_alloc ?_ _)); exact BK141.out⟩, ⟨by (with_reducible repeat (first | refine blk_drewN ?_ _ | refine blk_drew ?_ | refine blk_alloc ?_ _)); exact BK146.out⟩, ⟨by repeat (first | (with_reducible first | exact HB.out | apply below_alloc | apply pw_below_drewN | apply below_drew1 | refine below_set ?_ GE140.out | refine below_set ?_ GE141.out | refine below_set ?_ GE146.out) | exact HB.out)⟩⟩
  ·replace c18 := Bool.eq_false_iff.mpr c18
   subst c18
   have H1 : (queue_Put.j0 k true t142 t143 a1 a2 t142) = some (r1, r2, r3) := by rw [if_neg (show ¬ (false = true) by decide)] at H; exact H
   clear H
   have H := H1
   clear H1
   have H' := Aside0.mk H
   clear H
   have hnb38 := NB146_140.out
   have hnc38 := NB140_146.out
   have hnb39 := NB146_141.out
   have hnc39 := NB141_146.out
   have hcz40_0 : w13.cell? ⟨gb146, 0, none⟩ = some (.int .i64 0) := (blk_cell BK146.out 0).trans rfl
   have hcz40_1 : w13.cell? ⟨gb146, 1, none⟩ = some (.int .i64 0) := (blk_cell BK146.out 1).trans rfl
   have hcz40_2 : w13.cell? ⟨gb146, 2, none⟩ = some (.int .i64 0) := (blk_cell BK146.out 2).trans rfl
   have hfz40_0 := blk_frozen BK146.out 0
   have hfz40_1 := blk_frozen BK146.out 1
   have hfz40_2 := blk_frozen BK146.out 2
   have hnb41 := NB140_141.out
   have hnc41 := NB141_140.out
   have hcz42_0 : w13.cell? ⟨gb140, 0, none⟩ = some (.int .i64 t142) := (blk_cell BK140.out 0).trans rfl
   have hcz42_1 : w13.cell? ⟨gb140, 1, none⟩ = some (.slice Ao12 t143.length co12) := (blk_cell BK140.out 1).trans rfl
   have hfz42_0 := blk_frozen BK140.out 0
   have hfz42_1 := blk_frozen BK140.out 1
   go_wp2_with (first | ((with_reducible refine gate_callee (f := 26) rfl ?_); refine goesL_ (some 22) rfl rfl Try.func26 (by kernel_rfl) rfl #[.agg #[.int .i64 a1, .int .i64 a2, .int .i64 t142], .int .i64 (wrap64 (t142 + 1))] rfl (by (try simp only [List.map_toArray, List.map_cons, List.map_nil]); first | done | rfl | (simp only [List.length_drop, List.length_take]; rfl)) ?_; (with_reducible refine (queue_Item_may.calls a1 a2 t142 (wrap64 (t142 + 1)) false _ A17.out).mono ?_); rintro e w43 ⟨rfl, hb⟩; refine ⟨_, rfl, ?_⟩; have n0_ := Aside0.mk (Kd.V_below (by (with_reducible repeat (first | apply Kd.V_alloc | apply Kd.V_drewN | apply Kd.V_drew)); exact (Kd.V_mono (Kd.V_far (p := ⟨gb146, 2, none⟩) (Kd.V_far (p := ⟨gb146, 1, none⟩) (Kd.V_far (p := ⟨gb146, 0, none⟩) (Kd.V_mono HO0_1.out (fun k_ hk => (⟨hk, hk.2⟩ : _ ∧ k_ ≠ gb146))) (fun _ hk => hk.2) (.int .i64 a1)) (fun _ hk => hk.2) (.int .i64 a2)) (fun _ hk => hk.2) (.int .i64 t142)) (fun _ h_ => h_.1))) hb); have n1_ := Aside0.mk (Kd.V_below (by (with_reducible repeat (first | apply Kd.V_alloc | apply Kd.V_drewN | apply Kd.V_drew)); exact (Kd.V_mono (Kd.V_far (p := ⟨gb146, 2, none⟩) (Kd.V_far (p := ⟨gb146, 1, none⟩) (Kd.V_far (p := ⟨gb146, 0, none⟩) (Kd.V_mono HO145.out (fun k_ hk => (⟨hk, hk.2⟩ : _ ∧ k_ ≠ gb146))) (fun _ hk => hk.2) (.int .i64 a1)) (fun _ hk => hk.2) (.int .i64 a2)) (fun _ hk => hk.2) (.int .i64 t142)) (fun _ h_ => h_.1))) hb); have n2_ := Aside0.mk (blk_below (g := gb140) (o := .cells #[.int .i64 t142, .slice Ao12 t143.length co12] 29 (0, 0)) (by (with_reducible repeat (first | refine blk_drewN ?_ _ | refine blk_drew ?_ | refine blk_alloc ?_ _)); refine blk_far ?_ NB140_146.out _; (with_reducible repeat (first | refine blk_drewN ?_ _ | refine blk_drew ?_ | refine blk_alloc ?_ _)); refine blk_far ?_ NB140_146.out _; (with_reducible repeat (first | refine blk_drewN ?_ _ | refine blk_drew ?_ | refine blk_alloc ?_ _)); refine blk_far ?_ NB140_146.out _; (with_reducible repeat (first | refine blk_drewN ?_ _ | refine blk_drew ?_ | refine blk_alloc ?_ _)); exact BK140.out) hb); have n3_ := Aside0.mk (blk_below (g := gb141) (o := .cells #[.int .i64 0, .slice none 0 0] 29 (0, 0)) (by (with_reducible repeat (first | refine blk_drewN ?_ _ | refine blk_drew ?_ | refine blk_alloc ?_ _)); refine blk_far ?_ NB141_146.out _; (with_reducible repeat (first | refine blk_drewN ?_ _ | refine blk_drew ?_ | refine blk_alloc ?_ _)); refine blk_far ?_ NB141_146.out _; (with_reducible repeat (first | refine blk_drewN ?_ _ | refine blk_drew ?_ | refine blk_alloc ?_ _)); refine blk_far ?_ NB141_146.out _; (with_reducible repeat (first | refine blk_drewN ?_ _ | refine blk_drew ?_ | refine blk_alloc ?_ _)); exact BK141.out) hb); have n4_ := Aside0.mk (blk_below (g := gb146) (o := .cells #[.int .i64 a1, .int .i64 a2, .int .i64 t142] 60 (0, 0)) (by (with_reducible repeat (first | refine blk_drewN ?_ _ | refine blk_drew ?_ | refine blk_alloc ?_ _)); refine blk_put (cs := #[.int .i64 a1, .int .i64 a2, .int .i64 0]) ?_ 2 _ rfl; (with_reducible repeat (first | refine blk_drewN ?_ _ | refine blk_drew ?_ | refine blk_alloc ?_ _)); refine blk_put (cs := #[.int .i64 a1, .int .i64 0, .int .i64 0]) ?_ 1 _ rfl; (with_reducible repeat (first | refine blk_drewN ?_ _ | refine blk_drew ?_ | refine blk_alloc ?_ _)); refine blk_put (cs := #[.int .i64 0, .int .i64 0, .int .i64 0]) ?_ 0 _ rfl; (with_reducible repeat (first | refine blk_drewN ?_ _ | refine blk_drew ?_ | refine blk_alloc ?_ _)); exact BK146.out) hb); have n5_ := Aside0.mk (below_step (by repeat (first | (with_reducible first | exact HB.out | apply below_alloc | apply pw_below_drewN | apply below_drew1 | refine below_set ?_ GE140.out | refine below_set ?_ GE141.out | refine below_set ?_ GE146.out) | exact HB.out)) hb); clear HO0_1; clear HO145; clear BK140; clear BK141; clear BK146; clear HB; have HO0_1 := n0_; have HO145 := n1_; have BK140 := n2_; have BK141 := n3_; have BK146 := n4_; have HB := n5_; clear n0_ n1_ n2_ n3_ n4_ n5_; (try clear hb); (try clear hb2); (try clear hk); (try clear hi)))
   go_meet
   case rel => exact ⟨_, (true), (by first | rfl | (simp; done) | (simp [*]; done)), H', ⟨by first | omega | exact Nat.le_refl _⟩, ⟨by (with_reducible repeat (first | apply Kd.V_alloc | apply Kd.V_drewN | apply Kd.V_drew)); exact Kd.V_mono HO145.out (fun _ hk => ⟨hk.1.1, ⟨hk.1.2.1, ⟨hk.1.2.2, hk.2⟩⟩⟩)⟩, ⟨by (with_reducible repeat (first | refine blk_drewN ?_ _ | refine blk_drew ?_ | refine blk_alloc ?_ _)); exact BK140.out⟩, ⟨by (with_reducible repeat (first | refine blk_drewN ?_ _ | refine blk_drew ?_ | refine blk_alloc ?_ _)); exact BK141.out⟩, ⟨by (with_reducible repeat (first | refine blk_drewN ?_ _ | refine blk_drew ?_ | refine blk_alloc ?_ _)); exact BK146.out⟩, ⟨by repeat (first | (with_reducible first | exact HB.out | apply below_alloc | apply pw_below_drewN | apply below_drew1 | refine below_set ?_ GE140.out | refine below_set ?_ GE141.out | refine below_set ?_ GE146.out) | exact HB.out)⟩⟩
 case rest =>
  clear HC5
  try clear c1
  try clear c2
  try clear p2
  try clear c3
  try clear c4
  try clear p6
  try clear c8
  try clear c13
  try clear c14
  try clear c15
  try clear c18
  try clear c20
  try clear c20b0
  try clear c21
  try clear c22
  try clear c24
  try clear c26
  try clear c28
  try clear c29
  try clear c30
  try clear c32
  try clear c38
  try clear c39
  try clear c41
  try clear hcz11_0
  try clear hcz11_1
  try clear hcz16_0
  try clear hcz16_1
  try clear hcz16_2
  try clear hcz23_0
  try clear hcz23_1
  try clear hcz23_2
  try clear hcz25_0
  try clear hcz25_1
  try clear hcz27_0
  try clear hcz27_1
  try clear hcz31_0
  try clear hcz31_1
  try clear hcz31_2
  try clear hcz33_0
  try clear hcz33_1
  try clear hcz35_0
  try clear hcz35_1
  try clear hcz37_0
  try clear hcz37_1
  try clear hcz40_0
  try clear hcz40_1
  try clear hcz40_2
  try clear hcz42_0
  try clear hcz42_1
  try clear hcz9_0
  try clear hcz9_1
  try clear hfz11_0
  try clear hfz11_1
  try clear hfz16_0
  try clear hfz16_1
  try clear hfz16_2
  try clear hfz23_0
  try clear hfz23_1
  try clear hfz23_2
  try clear hfz25_0
  try clear hfz25_1
  try clear hfz27_0
  try clear hfz27_1
  try clear hfz31_0
  try clear hfz31_1
  try clear hfz31_2
  try clear hfz33_0
  try clear hfz33_1
  try clear hfz35_0
  try clear hfz35_1
  try clear hfz37_0
  try clear hfz37_1
  try clear hfz40_0
  try clear hfz40_1
  try clear hfz40_2
  try clear hfz42_0
  try clear hfz42_1
  try clear hfz9_0
  try clear hfz9_1
  obtain ⟨kq, x34_4, rfl, HA, HJ4, HO_141001, BK140, BK141, BK146, HB⟩ := hcut
  cases kq with
  | zero => exact absurd HA.out (by simp [queue_Put.j0])
  | succ kj4 =>
   have H := HA.out
   clear HA
   simp only [queue_Put.j0] at H
   by_cases c44 : x34_4 = true
   ·subst c44
    have H1 : (some (t142, t143, false)) = some (r1, r2, r3) := by rw [if_pos rfl] at H; exact H
    clear H
    have H := H1
    clear H1
    simp only [Option.some.injEq, Prod.mk.injEq] at H
    obtain ⟨rfl, rfl, rfl⟩ := H
    have hnb45 := NB140_141.out
    have hnc45 := NB141_140.out
    have hnb46 := NB140_146.out
    have hnc46 := NB146_140.out
    have hcz47_0 : wc.cell? ⟨gb140, 0, none⟩ = some (.int .i64 t142) := (blk_cell BK140.out 0).trans rfl
    have hcz47_1 : wc.cell? ⟨gb140, 1, none⟩ = some (.slice Ao12 t143.length co12) := (blk_cell BK140.out 1).trans rfl
    have hfz47_0 := blk_frozen BK140.out 0
    have hfz47_1 := blk_frozen BK140.out 1
    have hnb48 := NB141_146.out
    have hnc48 := NB146_141.out
    have hcz49_0 : wc.cell? ⟨gb141, 0, none⟩ = some (.int .i64 0) := (blk_cell BK141.out 0).trans rfl
    have hcz49_1 : wc.cell? ⟨gb141, 1, none⟩ = some (.slice none 0 0) := (blk_cell BK141.out 1).trans rfl
    have hfz49_0 := blk_frozen BK141.out 0
    have hfz49_1 := blk_frozen BK141.out 1
    go_wp2
    refine bodyPost_ret (results_ct rfl _ _ gb141 29 #[.int .i64 t142, .slice Ao12 t143.length co12] (0, 0) _ rfl (by (with_reducible repeat (first | refine blk_drewN ?_ _ | refine blk_drew ?_ | refine blk_alloc ?_ _)); refine blk_put (cs := #[.int .i64 t142, .slice none 0 0]) ?_ 1 _ rfl; (with_reducible repeat (first | refine blk_drewN ?_ _ | refine blk_drew ?_ | refine blk_alloc ?_ _)); refine blk_put (cs := #[.int .i64 0, .slice none 0 0]) ?_ 0 _ rfl; (with_reducible repeat (first | refine blk_drewN ?_ _ | refine blk_drew ?_ | refine blk_alloc ?_ _)); exact BK141.out) Try.underlying29 rfl (by kernel_rfl)) rfl ?_
    exact ⟨_, by first | rfl | (simp [errW_none, errW_some] <;> rfl) | (simp [*, errW_none, errW_some] <;> rfl), by (with_reducible repeat (first | apply Kd.V_alloc | apply Kd.V_drewN | apply Kd.V_drew)); exact Kd.V_mono (Kd.V_far (p := ⟨gb141, 1, none⟩) (Kd.V_far (p := ⟨gb141, 0, none⟩) (Kd.V_mono HO_141001.out (fun k_ hk => (⟨hk, hk.2.2.1⟩ : _ ∧ k_ ≠ gb141))) (fun _ hk => hk.2) (.int .i64 t142)) (fun _ hk => hk.2) (.slice Ao12 t143.length co12)) (fun _ hk => hk.1.1), by repeat (first | (with_reducible first | exact HB.out | apply below_alloc | apply pw_below_drewN | apply below_drew1 | refine below_set ?_ GE140.out | refine below_set ?_ GE141.out | refine below_set ?_ GE146.out) | exact HB.out)⟩
   ·replace c44 := Bool.eq_false_iff.mpr c44
    subst c44
    have H1 : ((queue_Item_30.f kj4 t143 a1 a2 t142 0).bind fun bt149 => ((queue_Item_32.f t143).bind fun t151 => ((insF t151 bt149.1 ⟨a1, a2, t142⟩).bind fun t156 => (some (wrap64 (t142 + 1), t156, true))))) = some (r1, r2, r3) := by rw [if_neg (show ¬ (false = true) by decide)] at H; exact H
    clear H
    have H := H1
    clear H1
    replace H := Option.bind_eq_some_iff.mp H
    obtain ⟨⟨t149, t150⟩, A500, H⟩ := H
    replace H : ((queue_Item_32.f t143).bind fun t151 => ((insF t151 t149 ⟨a1, a2, t142⟩).bind fun t156 => (some (wrap64 (t142 + 1), t156, true)))) = some (r1, r2, r3) := H
    have A50 := Aside0.mk A500
    clear A500
    replace H := Option.bind_eq_some_iff.mp H
    obtain ⟨t151, A510, H⟩ := H
    have A51 := Aside0.mk A510
    clear A510
    replace H := Option.bind_eq_some_iff.mp H
    obtain ⟨t156, AI0, H⟩ := H
    obtain ⟨lk0, lk1, lk2, hI_⟩ := insF_some AI0
    have LK0 := Aside0.mk lk0
    have LK1 := Aside0.mk lk1
    have LK2 := Aside0.mk lk2
    have NyI := Aside0.mk hI_.symm
    clear AI0 lk0 lk1 lk2 hI_
    obtain ⟨y154, hy154⟩ : ∃ y_ : List (S60), y_ = (([(⟨a1, a2, t142⟩ : S60)] : List (S60))) := ⟨_, rfl⟩
    replace H : (some (wrap64 (t142 + 1), t156, true)) = some (r1, r2, r3) := by first | (rw [hy154]; with_reducible exact H) | (have H2_ := (Option.bind_some _ _).symm.trans H; rw [hy154]; with_reducible exact H2_) | (have H2_ := (Option.bind_some _ _).symm.trans H; with_reducible exact H2_) | with_reducible exact H | (rw [hy154]; exact H) | exact H
    have Ny154 := Aside0.mk hy154
    clear hy154
    simp only [Option.some.injEq, Prod.mk.injEq] at H
    obtain ⟨rfl, rfl, rfl⟩ := H
    have hnb52 := NB140_141.out
    have hnc52 := NB141_140.out
    have hnb53 := NB140_146.out
    have hnc53 := NB146_140.out
    have hcz54_0 : wc.cell? ⟨gb140, 0, none⟩ = some (.int .i64 t142) := (blk_cell BK140.out 0).trans rfl
    have hcz54_1 : wc.cell? ⟨gb140, 1, none⟩ = some (.slice Ao12 t143.length co12) := (blk_cell BK140.out 1).trans rfl
    have hfz54_0 := blk_frozen BK140.out 0
    have hfz54_1 := blk_frozen BK140.out 1
    have hnb55 := NB146_141.out
    have hnc55 := NB141_146.out
    have hcz56_0 : wc.cell? ⟨gb146, 0, none⟩ = some (.int .i64 a1) := (blk_cell BK146.out 0).trans rfl
    have hcz56_1 : wc.cell? ⟨gb146, 1, none⟩ = some (.int .i64 a2) := (blk_cell BK146.out 1).trans rfl
    have hcz56_2 : wc.cell? ⟨gb146, 2, none⟩ = some (.int .i64 t142) := (blk_cell BK146.out 2).trans rfl
    have hfz56_0 := blk_frozen BK146.out 0
    have hfz56_1 := blk_frozen BK146.out 1
    have hfz56_2 := blk_frozen BK146.out 2
    try go_wp2_with (first | ((with_reducible refine gate_callee (f := 30) rfl ?_); refine goesL_ (some 40) rfl rfl Try.func30 (by kernel_rfl) rfl #[.slice Ao12 t143.length co12, .agg #[.int .i64 a1, .int .i64 a2, .int .i64 t142], .func (.func 27) #[] #[]] rfl (by (try simp only [List.map_toArray, List.map_cons, List.map_nil]); first | done | rfl | (simp only [List.length_drop, List.length_take]; rfl)) ?_; (with_reducible refine (queue_Item_30.calls kj4 _ _ t143 a1 a2 t142 t149 t150 _ ?side1 ?side2 A50.out).mono ?_); (case side1 => repeat (first | exact (Kd.V_reads' HO_141001.out).2.2 | (with_reducible refine Kd.C_alloc ?_ _) | (with_reducible refine Kd.C_drewN ?_ _) | (with_reducible refine Kd.C_drew ?_))); (case side2 => exact (Kd.V_reads' HO_141001.out).2.1); rintro e w57 ⟨rfl, hb⟩; refine ⟨_, rfl, ?_⟩; have n0_ := Aside0.mk (Kd.V_below (by (with_reducible repeat (first | apply Kd.V_alloc | apply Kd.V_drewN | apply Kd.V_drew)); exact HO_141001.out) hb); have n1_ := Aside0.mk (blk_below (g := gb140) (o := .cells #[.int .i64 t142, .slice Ao12 t143.length co12] 29 (0, 0)) (by (with_reducible repeat (first | refine blk_drewN ?_ _ | refine blk_drew ?_ | refine blk_alloc ?_ _)); exact BK140.out) hb); have n2_ := Aside0.mk (blk_below (g := gb141) (o := .cells #[.int .i64 0, .slice none 0 0] 29 (0, 0)) (by (with_reducible repeat (first | refine blk_drewN ?_ _ | refine blk_drew ?_ | refine blk_alloc ?_ _)); exact BK141.out) hb); have n3_ := Aside0.mk (blk_below (g := gb146) (o := .cells #[.int .i64 a1, .int .i64 a2, .int .i64 t142] 60 (0, 0)) (by (with_reducible repeat (first | refine blk_drewN ?_ _ | refine blk_drew ?_ | refine blk_alloc ?_ _)); exact BK146.out) hb); have n4_ := Aside0.mk (below_step (by repeat (first | (with_reducible first | exact HB.out | apply below_alloc | apply pw_below_drewN | apply below_drew1 | refine below_set ?_ GE140.out | refine below_set ?_ GE141.out | refine below_set ?_ GE146.out) | exact HB.out)) hb); clear HO_141001; clear BK140; clear BK141; clear BK146; clear HB; have HO_141001 := n0_; have BK140 := n1_; have BK141 := n2_; have BK146 := n3_; have HB := n4_; clear n0_ n1_ n2_ n3_ n4_; (try clear hb); (try clear hb2); (try clear hk); (try clear hi)))
    have n0_ := Aside0.mk (Kd.V_drew HO_141001.out)
    have n1_ := Aside0.mk (blk_drew BK140.out)
    have n2_ := Aside0.mk (blk_drew BK141.out)
    have n3_ := Aside0.mk (blk_drew BK146.out)
    have n4_ := Aside0.mk (below_drew1 HB.out)
    clear HO_141001
    clear BK140
    clear BK141
    clear BK146
    clear HB
    have HO_141001 := n0_
    have BK140 := n1_
    have BK141 := n2_
    have BK146 := n3_
    have HB := n4_
    clear n0_ n1_ n2_ n3_ n4_
    refine start_ (n := 13) (S := fun w' => True) (ds := []) #[false, false, false, false, false, false, false, false, false, false, false, false, false] (by kernel_rfl) rfl rfl trivial (fun hHeld => ?_); refine with_tabW queue_Put.tab6 queue_Put.bits6 (fun HT_ HW_ => ?_)
    generalize w57.drew = w58 at HO_141001 BK140 BK141 BK146 HB hHeld ⊢
    refine pure_ (i := 0) (N := some 43) (v := ?_) (a' := ?_) #[true, false, false, false, false, false, false, false, false, false, false, false, false] rfl rfl (any_of HT_.out (by kernel_rfl)) (fun _ _ _ h => h) (Or.inl ⟨by rfl, ?_⟩) ?_ ?_
    rotate_left
    ·intro w'
     go_simp
     with_reducible rfl
    rotate_left
    ·simp only [Act.put, List.setIfInBounds_toArray, List.set_cons_zero, List.set_cons_succ, i64_w, i32_w]
     rfl
    refine pure_ (i := 3) (N := some 46) (v := ?_) (a' := ?_) #[true, false, false, true, false, false, false, false, false, false, false, false, false] rfl rfl (any_of HT_.out (by kernel_rfl)) (fun _ _ _ h => h) (Or.inl ⟨by rfl, ?_⟩) ?_ ?_
    rotate_left
    ·intro w'
     go_simp
     with_reducible rfl
    rotate_left
    ·simp only [Act.put, List.setIfInBounds_toArray, List.set_cons_zero, List.set_cons_succ, i64_w, i32_w]
     rfl
    refine pure_ (i := 6) (N := some 49) (v := ?_) (a' := ?_) #[true, false, false, true, false, false, true, false, false, false, false, false, false] rfl rfl (any_of HT_.out (by kernel_rfl)) (fun _ _ _ h => h) (Or.inl ⟨by rfl, ?_⟩) ?_ ?_
    rotate_left
    ·intro w'
     go_simp
     with_reducible rfl
    rotate_left
    ·simp only [Act.put, List.setIfInBounds_toArray, List.set_cons_zero, List.set_cons_succ, i64_w, i32_w]
     rfl
    refine inv_at [1, 2, 4, 5, 7, 8, 9, 10, 11, 12] (fun a0_ b a w' => ∃ (v152 : Value) (v155 : Value) (m9_ : Value) (m10_ : Value), a = putSel a0_ b [(1, 44, .int .i64 t142), (2, 45, .int .i64 (wrap64 (t142 + 1))), (4, 47, .slice Ao12 t143.length co12), (5, 48, v152), (7, 50, .agg #[.int .i64 a1, .int .i64 a2, .int .i64 t142]), (8, 51, v155), (9, 52, m9_), (10, 53, m10_), (12, 7, .bool true)] ∧ (b 9 = false → Kd.V k60 60 w' w.heap.size (fun k_ => (P0_1_ k_ ∨ w.heap.size ≤ k_) ∧ k_ ≠ gb140 ∧ k_ ≠ gb141 ∧ k_ ≠ gb146) (.slice Ao12 t143.length co12) t143) ∧ (w'.heap[gb140]? = some (.cells #[.int .i64 t142, .slice Ao12 t143.length co12] 29 (0, 0))) ∧ (b 11 = false → w'.heap[gb141]? = some (.cells #[.int .i64 0, .slice none 0 0] 29 (0, 0))) ∧ (w'.heap[gb146]? = some (.cells #[.int .i64 a1, .int .i64 a2, .int .i64 t142] 60 (0, 0))) ∧ (Below w.heap.size w w') ∧ (b 5 = true → b 9 = false → Kd.R k60 60 w' w.heap.size (fun k_ => (w.heap.size ≤ k_) ∧ k_ ≠ gb146) v152 t151) ∧ (b 8 = true → Kd.R k60 60 w' w.heap.size (fun k_ => (w.heap.size ≤ k_) ∧ k_ ≠ gb146) v155 y154) ∧ (b 11 = true → w'.heap[gb141]? = some (.cells #[.int .i64 (wrap64 (t142 + 1)), m9_] 29 (0, 0))) ∧ (b 9 = true → Kd.R k60 60 w' w.heap.size (fun k_ => (w.heap.size ≤ k_) ∧ k_ ≠ gb146) m9_ t156) ∧ (b 10 = true → (m10_ : Value) = .agg #[.int .i64 (wrap64 (t142 + 1)), m9_]) ∧ (b 5 = true → b 8 = true → NeRow v152 v155)) HT_.out HW_.out (by kernel_rfl) (by kernel_rfl) ?_ ?_ ?_
    ·exact ⟨.bool false, .bool false, .bool false, .bool false, by simp only [putSel, Bool.false_eq_true, if_false], fun _ => HO_141001.out, BK140.out, fun _ => BK141.out, BK146.out, HB.out, fun h_ => absurd h_ (by decide), fun h_ => absurd h_ (by decide), fun h_ => absurd h_ (by decide), fun h_ => absurd h_ (by decide), fun h_ => absurd h_ (by decide), fun h_ => absurd h_ (by decide)⟩
    ·skip
     clear BK140 BK141 BK146 HB HO_141001
     refine steps_cons ?_ ?_
     ·rintro b a w' ⟨v152, v155, m9_, m10_, ha, Q_HO_141001, Q_BK140, Q_BK141, Q_BK146, Q_HB, Q_HO153, Q_HO156, Q_BK141_e11, Q_X9_, Q_X10_, Q_NE⟩ hb_ hon hoff
      refine ⟨_, rfl, fun K hK => ?_⟩
      have e43 : a.tmps[43]? = some (.pointer (some ⟨gb140, 0, none⟩)) := by rw [ha]; exact (putSel_off rfl).trans rfl
      replace ha := Aside0.mk ha
      skip
      have BK140 := Aside0.mk Q_BK140
      have BK141 := Aside0.mk (Q_BK141 (hoff 11 (by kernel_rfl)))
      have BK146 := Aside0.mk Q_BK146
      have HB := Aside0.mk Q_HB
      have hc0_ : w'.cell? ⟨gb140, 0, none⟩ = some (.int .i64 t142) := (blk_cell BK140.out 0).trans rfl
      have hc1_ : w'.cell? ⟨gb140, 1, none⟩ = some (.slice Ao12 t143.length co12) := (blk_cell BK140.out 1).trans rfl
      refine value_ (w1 := w') (v := .int .i64 t142) (by rfl) rfl ?_ ?_
      ·go_simp
       (try simp only [i64_w])
       try rfl
      refine hK.out _ _ ⟨v152, v155, m9_, m10_, (by rw [ha.out]; exact putSel_upk 0 hb_ rfl rfl rfl), Q_HO_141001, Q_BK140, Q_BK141, Q_BK146, Q_HB, Q_HO153, Q_HO156, fun h0_ => absurd ((hoff 11 (by kernel_rfl)).symm.trans h0_) (by decide), Q_X9_, fun h0_ => absurd ((hoff 10 (by kernel_rfl)).symm.trans h0_) (by decide), Q_NE⟩
     refine steps_cons ?_ ?_
     ·rintro b a w' ⟨v152, v155, m9_, m10_, ha, Q_HO_141001, Q_BK140, Q_BK141, Q_BK146, Q_HB, Q_HO153, Q_HO156, Q_BK141_e11, Q_X9_, Q_X10_, Q_NE⟩ hb_ hon hoff
      refine ⟨_, rfl, fun K hK => ?_⟩
      have e44 : a.tmps[44]? = some (.int .i64 t142) := by rw [ha]; exact putSel_on (e := (1, 44, .int .i64 t142)) 0 rfl rfl (hon 1 (by kernel_rfl)) rfl
      replace ha := Aside0.mk ha
      skip
      have BK140 := Aside0.mk Q_BK140
      have BK141 := Aside0.mk (Q_BK141 (hoff 11 (by kernel_rfl)))
      have BK146 := Aside0.mk Q_BK146
      have HB := Aside0.mk Q_HB
      refine value_ (w1 := w') (v := .int .i64 (wrap64 (t142 + 1))) (by rfl) rfl ?_ ?_
      ·go_simp
       (try simp only [i64_w])
       try rfl
      refine hK.out _ _ ⟨v152, v155, m9_, m10_, (by rw [ha.out]; exact putSel_upk 1 hb_ rfl rfl rfl), Q_HO_141001, Q_BK140, Q_BK141, Q_BK146, Q_HB, Q_HO153, Q_HO156, fun h0_ => absurd ((hoff 11 (by kernel_rfl)).symm.trans h0_) (by decide), Q_X9_, fun h0_ => absurd ((hoff 10 (by kernel_rfl)).symm.trans h0_) (by decide), Q_NE⟩
     refine steps_cons ?_ ?_
     ·rintro b a w' ⟨v152, v155, m9_, m10_, ha, Q_HO_141001, Q_BK140, Q_BK141, Q_BK146, Q_HB, Q_HO153, Q_HO156, Q_BK141_e11, Q_X9_, Q_X10_, Q_NE⟩ hb_ hon hoff
      refine ⟨_, rfl, fun K hK => ?_⟩
      have e46 : a.tmps[46]? = some (.pointer (some ⟨gb140, 1, none⟩)) := by rw [ha]; exact (putSel_off rfl).trans rfl
      replace ha := Aside0.mk ha
      have HO_141001 := Aside0.mk (Q_HO_141001 (hoff 9 (by kernel_rfl)))
      have BK140 := Aside0.mk Q_BK140
      have BK141 := Aside0.mk (Q_BK141 (hoff 11 (by kernel_rfl)))
      have BK146 := Aside0.mk Q_BK146
      have HB := Aside0.mk Q_HB
      have hc0_ : w'.cell? ⟨gb140, 0, none⟩ = some (.int .i64 t142) := (blk_cell BK140.out 0).trans rfl
      have hc1_ : w'.cell? ⟨gb140, 1, none⟩ = some (.slice Ao12 t143.length co12) := (blk_cell BK140.out 1).trans rfl
      refine value_ (w1 := w') (v := .slice Ao12 t143.length co12) (by rfl) rfl ?_ ?_
      ·go_simp
       (try simp only [i64_w])
       try rfl
      refine hK.out _ _ ⟨v152, v155, m9_, m10_, (by rw [ha.out]; exact putSel_upk 2 hb_ rfl rfl rfl), Q_HO_141001, Q_BK140, Q_BK141, Q_BK146, Q_HB, fun h0_ => absurd ((hoff 5 (by kernel_rfl)).symm.trans h0_) (by decide), Q_HO156, fun h0_ => absurd ((hoff 11 (by kernel_rfl)).symm.trans h0_) (by decide), fun h0_ => absurd ((hoff 9 (by kernel_rfl)).symm.trans h0_) (by decide), fun h0_ => absurd ((hoff 10 (by kernel_rfl)).symm.trans h0_) (by decide), Q_NE⟩
     refine steps_cons ?_ ?_
     ·rintro b a w' ⟨v152, v155, m9_, m10_, ha, Q_HO_141001, Q_BK140, Q_BK141, Q_BK146, Q_HB, Q_HO153, Q_HO156, Q_BK141_e11, Q_X9_, Q_X10_, Q_NE⟩ hb_ hon hoff
      refine ⟨_, rfl, fun K hK => ?_⟩
      have e47 : a.tmps[47]? = some (.slice Ao12 t143.length co12) := by rw [ha]; exact putSel_on (e := (4, 47, .slice Ao12 t143.length co12)) 2 rfl rfl (hon 4 (by kernel_rfl)) rfl
      replace ha := Aside0.mk ha
      have HO_141001 := Aside0.mk (Q_HO_141001 (hoff 9 (by kernel_rfl)))
      have BK140 := Aside0.mk Q_BK140
      have BK141 := Aside0.mk (Q_BK141 (hoff 11 (by kernel_rfl)))
      have BK146 := Aside0.mk Q_BK146
      have HB := Aside0.mk Q_HB
      refine goes_ Try.func32 (by kernel_rfl) rfl #[.slice Ao12 t143.length co12] (by rfl) rfl rfl (by first | (simp only [List.map_toArray, List.map_cons, List.map_nil, Act.eval, Array.getD_eq_getD_getElem?, Option.getD_some, e47]; done) | (simp only [List.map_toArray, List.map_cons, List.map_nil, Act.eval, Array.getD_eq_getD_getElem?, Option.getD_some, e47]; rfl)) ?_
      with_reducible refine (queue_Item_32.calls _ _ t143 t151 _ ?side1 ?side2 A51.out).mono ?_
      (case side1 => repeat (first | exact (Kd.V_reads' HO_141001.out).2.2 | (with_reducible refine Kd.C_alloc ?_ _) | (with_reducible refine Kd.C_drewN ?_ _) | (with_reducible refine Kd.C_drew ?_)))
      (case side2 => exact (Kd.V_reads' HO_141001.out).2.1)
      rintro e w59 ⟨v152, rfl, ho0, hb⟩
      refine ⟨_, rfl, ?_⟩
      have n0_ := Aside0.mk (Kd.V_elder' (by (with_reducible repeat (first | apply Kd.V_alloc | apply Kd.V_drewN | apply Kd.V_drew)); exact HO_141001.out) (Kd.R_base ho0) hb)
      have n1_ := Aside0.mk (Kd.R_lower (Kd.R_newB (Kd.R_newM (M := fun k_ => (w.heap.size ≤ k_)) ho0 (below_size (by repeat (first | (with_reducible first | exact HB.out | apply below_alloc | apply pw_below_drewN | apply below_drew1 | refine below_set ?_ GE140.out | refine below_set ?_ GE141.out | refine below_set ?_ GE146.out) | exact HB.out))) (fun k_ h_ => h_)) (g := gb146) (o := .cells #[.int .i64 a1, .int .i64 a2, .int .i64 t142] 60 (0, 0)) (by (with_reducible repeat (first | refine blk_drewN ?_ _ | refine blk_drew ?_ | refine blk_alloc ?_ _)); exact BK146.out)) (below_size (by repeat (first | (with_reducible first | exact HB.out | apply below_alloc | apply pw_below_drewN | apply below_drew1 | refine below_set ?_ GE140.out | refine below_set ?_ GE141.out | refine below_set ?_ GE146.out) | exact HB.out))))
      have n2_ := Aside0.mk (blk_below (g := gb140) (o := .cells #[.int .i64 t142, .slice Ao12 t143.length co12] 29 (0, 0)) (by (with_reducible repeat (first | refine blk_drewN ?_ _ | refine blk_drew ?_ | refine blk_alloc ?_ _)); exact BK140.out) hb)
      have n3_ := Aside0.mk (blk_below (g := gb141) (o := .cells #[.int .i64 0, .slice none 0 0] 29 (0, 0)) (by (with_reducible repeat (first | refine blk_drewN ?_ _ | refine blk_drew ?_ | refine blk_alloc ?_ _)); exact BK141.out) hb)
      have n4_ := Aside0.mk (blk_below (g := gb146) (o := .cells #[.int .i64 a1, .int .i64 a2, .int .i64 t142] 60 (0, 0)) (by (with_reducible repeat (first | refine blk_drewN ?_ _ | refine blk_drew ?_ | refine blk_alloc ?_ _)); exact BK146.out) hb)
      have n5_ := Aside0.mk (below_step (by repeat (first | (with_reducible first | exact HB.out | apply below_alloc | apply pw_below_drewN | apply below_drew1 | refine below_set ?_ GE140.out | refine below_set ?_ GE141.out | refine below_set ?_ GE146.out) | exact HB.out)) hb)
      have z_HO156 := fun (h0_ : b 8 = true) => (show Kd.R k60 60 w59 w.heap.size (fun k_ => (w.heap.size ≤ k_) ∧ k_ ≠ gb146) v155 y154 from by first | exact (Kd.R_elder' (by (with_reducible repeat (first | apply Kd.R_alloc | apply Kd.R_drewN | apply Kd.R_drew)); exact (Q_HO156 h0_)) (Kd.R_base ho0) hb) | exact Kd.R_mono (Kd.R_elder' (by (with_reducible repeat (first | apply Kd.R_alloc | apply Kd.R_drewN | apply Kd.R_drew)); exact (Q_HO156 h0_)) (Kd.R_base ho0) hb) (fun _ h_ => by first | trivial | exact h_ | exact h_.1))
      have z_NE : b 5 = true ∨ True → b 8 = true → NeRow v152 v155 := fun _ h8_ k_ hk_ he_ => Nat.lt_irrefl _ (Nat.lt_of_lt_of_le (Kd.R_lt (Q_HO156 h8_) k_ he_) (Kd.R_base ho0 k_ hk_))
      clear HO_141001
      clear BK140
      clear BK141
      clear BK146
      clear HB
      have HO_141001 := n0_
      have HO153 := n1_
      have BK140 := n2_
      have BK141 := n3_
      have BK146 := n4_
      have HB := n5_
      clear n0_ n1_ n2_ n3_ n4_ n5_
      (try clear hb)
      (try clear hb2)
      (try clear hk)
      (try clear hi)
      (try clear ho0)
      refine hK.out _ _ ⟨v152, v155, m9_, m10_, (by rw [ha.out]; exact putSel_upk 3 hb_ rfl rfl rfl), fun _ => (by (with_reducible repeat (first | apply Kd.V_alloc | apply Kd.V_drewN | apply Kd.V_drew)); exact Kd.V_mono HO_141001.out (fun _ hk => hk.1)), (by (with_reducible repeat (first | refine blk_drewN ?_ _ | refine blk_drew ?_ | refine blk_alloc ?_ _)); exact BK140.out), fun _ => (by (with_reducible repeat (first | refine blk_drewN ?_ _ | refine blk_drew ?_ | refine blk_alloc ?_ _)); exact BK141.out), (by (with_reducible repeat (first | refine blk_drewN ?_ _ | refine blk_drew ?_ | refine blk_alloc ?_ _)); exact BK146.out), (by repeat (first | (with_reducible first | exact HB.out | apply below_alloc | apply pw_below_drewN | apply below_drew1 | refine below_set ?_ GE140.out | refine below_set ?_ GE141.out | refine below_set ?_ GE146.out) | exact HB.out)), fun _ _ => (by (with_reducible repeat (first | apply Kd.R_alloc | apply Kd.R_drewN | apply Kd.R_drew)); exact Kd.R_mono HO153.out (fun _ hk => ⟨hk.1.1, hk.2⟩)), z_HO156, fun h0_ => absurd ((hoff 11 (by kernel_rfl)).symm.trans h0_) (by decide), fun h0_ => absurd ((hoff 9 (by kernel_rfl)).symm.trans h0_) (by decide), fun h0_ => absurd ((hoff 10 (by kernel_rfl)).symm.trans h0_) (by decide), fun _ h8_ => z_NE (.inr trivial) h8_⟩
     refine steps_cons ?_ ?_
     ·rintro b a w' ⟨v152, v155, m9_, m10_, ha, Q_HO_141001, Q_BK140, Q_BK141, Q_BK146, Q_HB, Q_HO153, Q_HO156, Q_BK141_e11, Q_X9_, Q_X10_, Q_NE⟩ hb_ hon hoff
      refine ⟨_, rfl, fun K hK => ?_⟩
      have e8 : a.tmps[8]? = some (.pointer (some ⟨gb146, 0, none⟩)) := by rw [ha]; exact (putSel_off rfl).trans rfl
      replace ha := Aside0.mk ha
      have HO_141001 := Aside0.mk (Q_HO_141001 (hoff 9 (by kernel_rfl)))
      have BK140 := Aside0.mk Q_BK140
      have BK141 := Aside0.mk (Q_BK141 (hoff 11 (by kernel_rfl)))
      have BK146 := Aside0.mk Q_BK146
      have HB := Aside0.mk Q_HB
      have hc0_ : w'.cell? ⟨gb146, 0, none⟩ = some (.int .i64 a1) := (blk_cell BK146.out 0).trans rfl
      have hc1_ : w'.cell? ⟨gb146, 1, none⟩ = some (.int .i64 a2) := (blk_cell BK146.out 1).trans rfl
      have hc2_ : w'.cell? ⟨gb146, 2, none⟩ = some (.int .i64 t142) := (blk_cell BK146.out 2).trans rfl
      refine value_ (w1 := w') (v := .agg #[.int .i64 a1, .int .i64 a2, .int .i64 t142]) (by rfl) rfl ?_ ?_
      ·go_simp
       (try simp only [i64_w])
       try rfl
      refine hK.out _ _ ⟨v152, v155, m9_, m10_, (by rw [ha.out]; exact putSel_upk 4 hb_ rfl rfl rfl), Q_HO_141001, Q_BK140, Q_BK141, Q_BK146, Q_HB, Q_HO153, fun h0_ => absurd ((hoff 8 (by kernel_rfl)).symm.trans h0_) (by decide), fun h0_ => absurd ((hoff 11 (by kernel_rfl)).symm.trans h0_) (by decide), fun h0_ => absurd ((hoff 9 (by kernel_rfl)).symm.trans h0_) (by decide), fun h0_ => absurd ((hoff 10 (by kernel_rfl)).symm.trans h0_) (by decide), Q_NE⟩
     refine steps_cons ?_ ?_
     ·rintro b a w' ⟨v152, v155, m9_, m10_, ha, Q_HO_141001, Q_BK140, Q_BK141, Q_BK146, Q_HB, Q_HO153, Q_HO156, Q_BK141_e11, Q_X9_, Q_X10_, Q_NE⟩ hb_ hon hoff
      refine ⟨_, rfl, fun K hK => ?_⟩
      have e50 : a.tmps[50]? = some (.agg #[.int .i64 a1, .int .i64 a2, .int .i64 t142]) := by rw [ha]; exact putSel_on (e := (7, 50, .agg #[.int .i64 a1, .int .i64 a2, .int .i64 t142])) 4 rfl rfl (hon 7 (by kernel_rfl)) rfl
      replace ha := Aside0.mk ha
      have HO_141001 := Aside0.mk (Q_HO_141001 (hoff 9 (by kernel_rfl)))
      have BK140 := Aside0.mk Q_BK140
      have BK141 := Aside0.mk (Q_BK141 (hoff 11 (by kernel_rfl)))
      have BK146 := Aside0.mk Q_BK146
      have HB := Aside0.mk Q_HB
      refine Kd.R_lit_step k60 _ 60 ?hg (N := 51) ?hd (xs := ([(⟨a1, a2, t142⟩ : S60)] : List (S60))) (inner := [.int .i64 a1, .int .i64 a2, .int .i64 t142]) (ok := fun _ => True) (okp := fun _ => True) ?hr ?hp (fun _ hk => hk) trivial (Below.refl _ _) (Nat.le_refl _) (by simp) ?_; (case hd => rfl); (case hg => rfl); (case hr => first | (go_simp; done) | (go_simp; rfl)); (case hp => exact (Reps.c3 (show Kd.M k60 _ _ _ (⟨a1, a2, t142⟩ : S60) [.int .i64 a1, .int .i64 a2, .int .i64 t142] from (k60_mkM _ _ _ (⟨a1, a2, t142⟩ : S60) )) (Reps.none _ _)))
      intro v155 w59 ho60 hb hg_ hnew_
      clear hg_ hnew_
      (first | rw [← Ny154.out] at ho60 | (simp only [Int.reduceToNat] at ho60; rw [← Ny154.out] at ho60))
      have n0_ := Aside0.mk (Kd.V_elder' (by (with_reducible repeat (first | apply Kd.V_alloc | apply Kd.V_drewN | apply Kd.V_drew)); exact HO_141001.out) (Kd.R_base ho60) hb)
      have n1_ := Aside0.mk (Kd.R_lower (Kd.R_newB (Kd.R_newM (M := fun k_ => (w.heap.size ≤ k_)) ho60 (below_size (by repeat (first | (with_reducible first | exact HB.out | apply below_alloc | apply pw_below_drewN | apply below_drew1 | refine below_set ?_ GE140.out | refine below_set ?_ GE141.out | refine below_set ?_ GE146.out) | exact HB.out))) (fun k_ h_ => h_)) (g := gb146) (o := .cells #[.int .i64 a1, .int .i64 a2, .int .i64 t142] 60 (0, 0)) (by (with_reducible repeat (first | refine blk_drewN ?_ _ | refine blk_drew ?_ | refine blk_alloc ?_ _)); exact BK146.out)) (below_size (by repeat (first | (with_reducible first | exact HB.out | apply below_alloc | apply pw_below_drewN | apply below_drew1 | refine below_set ?_ GE140.out | refine below_set ?_ GE141.out | refine below_set ?_ GE146.out) | exact HB.out))))
      have n2_ := Aside0.mk (blk_below (g := gb140) (o := .cells #[.int .i64 t142, .slice Ao12 t143.length co12] 29 (0, 0)) (by (with_reducible repeat (first | refine blk_drewN ?_ _ | refine blk_drew ?_ | refine blk_alloc ?_ _)); exact BK140.out) hb)
      have n3_ := Aside0.mk (blk_below (g := gb141) (o := .cells #[.int .i64 0, .slice none 0 0] 29 (0, 0)) (by (with_reducible repeat (first | refine blk_drewN ?_ _ | refine blk_drew ?_ | refine blk_alloc ?_ _)); exact BK141.out) hb)
      have n4_ := Aside0.mk (blk_below (g := gb146) (o := .cells #[.int .i64 a1, .int .i64 a2, .int .i64 t142] 60 (0, 0)) (by (with_reducible repeat (first | refine blk_drewN ?_ _ | refine blk_drew ?_ | refine blk_alloc ?_ _)); exact BK146.out) hb)
      have n5_ := Aside0.mk (below_step (by repeat (first | (with_reducible first | exact HB.out | apply below_alloc | apply pw_below_drewN | apply below_drew1 | refine below_set ?_ GE140.out | refine below_set ?_ GE141.out | refine below_set ?_ GE146.out) | exact HB.out)) hb)
      have z_HO153 := fun (h0_ : b 5 = true) => (show Kd.R k60 60 w59 w.heap.size (fun k_ => (w.heap.size ≤ k_) ∧ k_ ≠ gb146) v152 t151 from by first | exact (Kd.R_elder' (by (with_reducible repeat (first | apply Kd.R_alloc | apply Kd.R_drewN | apply Kd.R_drew)); exact (Q_HO153 h0_ (hoff 9 (by kernel_rfl)))) (Kd.R_base ho60) hb) | exact Kd.R_mono (Kd.R_elder' (by (with_reducible repeat (first | apply Kd.R_alloc | apply Kd.R_drewN | apply Kd.R_drew)); exact (Q_HO153 h0_ (hoff 9 (by kernel_rfl)))) (Kd.R_base ho60) hb) (fun _ h_ => by first | trivial | exact h_ | exact h_.1))
      have z_NE : b 5 = true → NeRow v152 v155 := fun h5_ k_ hk_ he_ => Nat.lt_irrefl _ (Nat.lt_of_lt_of_le (Kd.R_lt (Q_HO153 h5_ (hoff 9 (by kernel_rfl))) k_ hk_) (Kd.R_base ho60 k_ he_))
      clear HO_141001
      clear BK140
      clear BK141
      clear BK146
      clear HB
      have HO_141001 := n0_
      have HO156 := n1_
      have BK140 := n2_
      have BK141 := n3_
      have BK146 := n4_
      have HB := n5_
      clear n0_ n1_ n2_ n3_ n4_ n5_
      clear hb ho60
      refine hK.out _ _ ⟨v152, v155, m9_, m10_, (by rw [ha.out]; exact putSel_upk 5 hb_ rfl rfl rfl), fun _ => (by (with_reducible repeat (first | apply Kd.V_alloc | apply Kd.V_drewN | apply Kd.V_drew)); exact Kd.V_mono HO_141001.out (fun _ hk => hk.1)), (by (with_reducible repeat (first | refine blk_drewN ?_ _ | refine blk_drew ?_ | refine blk_alloc ?_ _)); exact BK140.out), fun _ => (by (with_reducible repeat (first | refine blk_drewN ?_ _ | refine blk_drew ?_ | refine blk_alloc ?_ _)); exact BK141.out), (by (with_reducible repeat (first | refine blk_drewN ?_ _ | refine blk_drew ?_ | refine blk_alloc ?_ _)); exact BK146.out), (by repeat (first | (with_reducible first | exact HB.out | apply below_alloc | apply pw_below_drewN | apply below_drew1 | refine below_set ?_ GE140.out | refine below_set ?_ GE141.out | refine below_set ?_ GE146.out) | exact HB.out)), fun h0_ _ => z_HO153 h0_, fun _ => (by (with_reducible repeat (first | apply Kd.R_alloc | apply Kd.R_drewN | apply Kd.R_drew)); exact Kd.R_mono HO156.out (fun _ hk => ⟨hk.1.1, hk.2⟩)), fun h0_ => absurd ((hoff 11 (by kernel_rfl)).symm.trans h0_) (by decide), fun h0_ => absurd ((hoff 9 (by kernel_rfl)).symm.trans h0_) (by decide), fun h0_ => absurd ((hoff 10 (by kernel_rfl)).symm.trans h0_) (by decide), fun h5_ _ => z_NE h5_⟩
     refine steps_cons ?_ ?_
     ·rintro b a w' ⟨v152, v155, m9_, m10_, ha, Q_HO_141001, Q_BK140, Q_BK141, Q_BK146, Q_HB, Q_HO153, Q_HO156, Q_BK141_e11, Q_X9_, Q_X10_, Q_NE⟩ hb_ hon hoff
      refine ⟨_, rfl, fun K hK => ?_⟩
      have e48 : a.tmps[48]? = some (v152) := by rw [ha]; exact putSel_on (e := (5, 48, v152)) 3 rfl rfl (hon 5 (by kernel_rfl)) rfl
      have e49 : a.tmps[49]? = some (.int .i64 t149) := by rw [ha]; exact (putSel_off rfl).trans rfl
      have e51 : a.tmps[51]? = some (v155) := by rw [ha]; exact putSel_on (e := (8, 51, v155)) 5 rfl rfl (hon 8 (by kernel_rfl)) rfl
      replace ha := Aside0.mk ha
      have HO_141001 := Aside0.mk (Q_HO_141001 hb_)
      have BK140 := Aside0.mk Q_BK140
      have BK141 := Aside0.mk (Q_BK141 (hoff 11 (by kernel_rfl)))
      have BK146 := Aside0.mk Q_BK146
      have HB := Aside0.mk Q_HB
      have HO153 := Aside0.mk (Q_HO153 (hon 5 (by kernel_rfl)) hb_)
      have HO156 := Aside0.mk (Q_HO156 (hon 8 (by kernel_rfl)))
      refine goes_ Try.func31 (by kernel_rfl) rfl #[v152, .int .i64 t149, v155] (by rfl) rfl rfl (by first | (simp only [List.map_toArray, List.map_cons, List.map_nil, Act.eval, Array.getD_eq_getD_getElem?, Option.getD_some, e48, e49, e51]; done) | (simp only [List.map_toArray, List.map_cons, List.map_nil, Act.eval, Array.getD_eq_getD_getElem?, Option.getD_some, e48, e49, e51]; rfl)) ?_
      refine (insert_any v152 v155 t149 t151 ⟨a1, a2, t142⟩ (Kd.R_mono HO153.out (fun _ _ => trivial)) (Ny154.out ▸ Kd.R_mono HO156.out (fun _ _ => trivial)) LK0.out LK1.out LK2.out HB.out HB.out.size (fun _ _ => trivial) (Q_NE (hon 5 (by kernel_rfl)) (hon 8 (by kernel_rfl)))).mono ?_
      rintro e w60 ⟨m9_, rfl, hR9, hb9, hG9, hA9⟩
      rw [NyI.out] at hR9
      refine ⟨_, rfl, ?_⟩
      have KB140_ := blk_grown BK140.out hG9 (Kd.R_ne HO153.out BK140.out (by decide))
      have KB141_ := blk_grown BK141.out hG9 (Kd.R_ne HO153.out BK141.out (by decide))
      have KB146_ := blk_grown BK146.out hG9 (Kd.R_away HO153.out (fun _ hk => hk.2))
      have KO156_ := Kd.R_grown2 HO156.out rfl hG9 (fun k_ hk_ he_ => Q_NE (hon 5 (by kernel_rfl)) (hon 8 (by kernel_rfl)) k_ hk_ he_.symm)
      have KR9_ : Kd.R k60 60 w60 w.heap.size (fun k_ => (w.heap.size ≤ k_) ∧ k_ ≠ gb146) m9_ t156 := Kd.R_reok rfl hR9 (fun k_ hk_ => ⟨Kd.R_base hR9 k_ hk_, fun e_ => by
       subst e_
       rcases hA9 with h_ | ⟨b_, h_, hle_⟩
       ·exact (Kd.R_away HO153.out (fun _ hk => hk.2)) (hk_.symm.trans h_)
       ·have hl_ := blk_lt BK146.out
        rw [h_] at hk_
        injection hk_ with hk_
        omega⟩)
      refine hK.out _ _ ⟨v152, v155, m9_, m10_, (by rw [ha.out]; exact putSel_upk 6 hb_ rfl rfl rfl), fun h0_ => absurd ((up_self b 9).symm.trans h0_) (by decide), KB140_, fun _ => KB141_, KB146_, hb9, fun _ h0_ => absurd ((up_self b 9).symm.trans h0_) (by decide), fun _ => KO156_, fun h0_ => absurd ((hoff 11 (by kernel_rfl)).symm.trans h0_) (by decide), fun _ => KR9_, fun h0_ => absurd ((hoff 10 (by kernel_rfl)).symm.trans h0_) (by decide), Q_NE⟩
     refine steps_cons ?_ ?_
     ·rintro b a w' ⟨v152, v155, m9_, m10_, ha, Q_HO_141001, Q_BK140, Q_BK141, Q_BK146, Q_HB, Q_HO153, Q_HO156, Q_BK141_e11, Q_X9_, Q_X10_, Q_NE⟩ hb_ hon hoff
      refine ⟨_, rfl, fun K hK => ?_⟩
      have e45 : a.tmps[45]? = some (.int .i64 (wrap64 (t142 + 1))) := by rw [ha]; exact putSel_on (e := (2, 45, .int .i64 (wrap64 (t142 + 1)))) 1 rfl rfl (hon 2 (by kernel_rfl)) rfl
      have e52 : a.tmps[52]? = some (m9_) := by rw [ha]; exact putSel_on (e := (9, 52, m9_)) 6 rfl rfl (hon 9 (by kernel_rfl)) rfl
      skip
      replace ha := Aside0.mk ha
      skip
      have BK140 := Aside0.mk Q_BK140
      have BK141 := Aside0.mk (Q_BK141 (hoff 11 (by kernel_rfl)))
      have BK146 := Aside0.mk Q_BK146
      have HB := Aside0.mk Q_HB
      have HO153 := Aside0.mk (Q_X9_ (hon 9 (by kernel_rfl)))
      have HO156 := Aside0.mk (Q_HO156 (hon 8 (by kernel_rfl)))
      obtain ⟨Ao10_0, co10_0, eo_⟩ := Kd.R_slice HO153.out
      subst eo_
      refine value_ (w1 := w') (v := .agg #[.int .i64 (wrap64 (t142 + 1)), .slice Ao10_0 t156.length co10_0]) (by rfl) rfl ?_ ?_
      ·go_simp
       (try simp only [i64_w])
       try rfl
      refine hK.out _ _ ⟨v152, v155, .slice Ao10_0 t156.length co10_0, (.agg #[.int .i64 (wrap64 (t142 + 1)), .slice Ao10_0 t156.length co10_0]), (by rw [ha.out]; exact putSel_upk 7 hb_ rfl rfl rfl), Q_HO_141001, Q_BK140, Q_BK141, Q_BK146, Q_HB, Q_HO153, Q_HO156, fun h0_ => absurd ((hoff 11 (by kernel_rfl)).symm.trans h0_) (by decide), Q_X9_, fun _ => rfl, Q_NE⟩
     refine steps_cons ?_ ?_
     ·rintro b a w' ⟨v152, v155, m9_, m10_, ha, Q_HO_141001, Q_BK140, Q_BK141, Q_BK146, Q_HB, Q_HO153, Q_HO156, Q_BK141_e11, Q_X9_, Q_X10_, Q_NE⟩ hb_ hon hoff
      refine ⟨_, rfl, fun K hK => ?_⟩
      have e6 : a.tmps[6]? = some (.pointer (some ⟨gb141, 0, none⟩)) := by rw [ha]; exact (putSel_off rfl).trans rfl
      have e53 : a.tmps[53]? = some (m10_) := by rw [ha]; exact putSel_on (e := (10, 53, m10_)) 7 rfl rfl (hon 10 (by kernel_rfl)) rfl
      rw [Q_X10_ (hon 10 (by kernel_rfl))] at e53
      replace ha := Aside0.mk ha
      skip
      have BK140 := Aside0.mk Q_BK140
      have BK141 := Aside0.mk (Q_BK141 hb_)
      have BK146 := Aside0.mk Q_BK146
      have HB := Aside0.mk Q_HB
      have HO153 := Aside0.mk (Q_X9_ (hon 9 (by kernel_rfl)))
      have HO156 := Aside0.mk (Q_HO156 (hon 8 (by kernel_rfl)))
      obtain ⟨Ao64, co64, eo64⟩ := Kd.R_slice HO153.out
      (first | subst eo64 | (injection eo64 with f1_ f2_ f3_; have f4_ := f1_.symm; have f5_ := f3_.symm; clear f1_ f2_ f3_; subst f4_; subst f5_))
      have hs65 : w'.cell? ⟨gb141, 0, none⟩ = some (.int .i64 0) := (blk_cell BK141.out 0).trans rfl
      have hfs65 := blk_frozen BK141.out 0
      have hns65_0 := NB140_141.out
      have hns65_2 := NB146_141.out
      have hms65_0 := NB141_140.out
      have hms65_2 := NB141_146.out
      have hs66 : w'.cell? ⟨gb141, 1, none⟩ = some (.slice none 0 0) := (blk_cell BK141.out 1).trans rfl
      have hfs66 := blk_frozen BK141.out 1
      have hns66_0 := NB140_141.out
      have hns66_2 := NB146_141.out
      have hms66_0 := NB141_140.out
      have hms66_2 := NB141_146.out
      refine skip_ (w1 := ?_) (by rfl) rfl ?_ ?_
      rotate_left
      ·go_simp
       rfl
      refine hK.out _ _ ⟨v152, v155, .slice Ao64 t156.length co64, m10_, (by rw [ha.out]; exact putSel_none (v := undef) rfl), fun h0_ => absurd ((hon 9 (by kernel_rfl)).symm.trans h0_) (by decide), (by (with_reducible repeat (first | refine blk_drewN ?_ _ | refine blk_drew ?_ | refine blk_alloc ?_ _)); refine blk_far ?_ NB140_141.out _; (with_reducible repeat (first | refine blk_drewN ?_ _ | refine blk_drew ?_ | refine blk_alloc ?_ _)); refine blk_far ?_ NB140_141.out _; (with_reducible repeat (first | refine blk_drewN ?_ _ | refine blk_drew ?_ | refine blk_alloc ?_ _)); exact BK140.out), fun h0_ => absurd ((up_self b 11).symm.trans h0_) (by decide), (by (with_reducible repeat (first | refine blk_drewN ?_ _ | refine blk_drew ?_ | refine blk_alloc ?_ _)); refine blk_far ?_ NB146_141.out _; (with_reducible repeat (first | refine blk_drewN ?_ _ | refine blk_drew ?_ | refine blk_alloc ?_ _)); refine blk_far ?_ NB146_141.out _; (with_reducible repeat (first | refine blk_drewN ?_ _ | refine blk_drew ?_ | refine blk_alloc ?_ _)); exact BK146.out), (by repeat (first | (with_reducible first | exact HB.out | apply below_alloc | apply pw_below_drewN | apply below_drew1 | refine below_set ?_ GE140.out | refine below_set ?_ GE141.out | refine below_set ?_ GE146.out) | exact HB.out)), fun _ h0_ => absurd ((hon 9 (by kernel_rfl)).symm.trans h0_) (by decide), fun _ => (by (with_reducible repeat (first | apply Kd.R_alloc | apply Kd.R_drewN | apply Kd.R_drew)); exact Kd.R_mono (Kd.R_far (p := ⟨gb141, 1, none⟩) (Kd.R_far (p := ⟨gb141, 0, none⟩) (Kd.R_types HO156.out BK141.out (by decide)) (fun _ hk => hk.2) (.int .i64 (wrap64 (t142 + 1)))) (fun _ hk => hk.2) (.slice Ao64 t156.length co64)) (fun _ hk => hk.1)), fun _ => (by (with_reducible repeat (first | refine blk_drewN ?_ _ | refine blk_drew ?_ | refine blk_alloc ?_ _)); refine blk_put (cs := #[.int .i64 (wrap64 (t142 + 1)), .slice none 0 0]) ?_ 1 _ rfl; (with_reducible repeat (first | refine blk_drewN ?_ _ | refine blk_drew ?_ | refine blk_alloc ?_ _)); refine blk_put (cs := #[.int .i64 0, .slice none 0 0]) ?_ 0 _ rfl; (with_reducible repeat (first | refine blk_drewN ?_ _ | refine blk_drew ?_ | refine blk_alloc ?_ _)); exact BK141.out), fun _ => (by (with_reducible repeat (first | apply Kd.R_alloc | apply Kd.R_drewN | apply Kd.R_drew)); exact Kd.R_mono (Kd.R_far (p := ⟨gb141, 1, none⟩) (Kd.R_far (p := ⟨gb141, 0, none⟩) (Kd.R_types HO153.out BK141.out (by decide)) (fun _ hk => hk.2) (.int .i64 (wrap64 (t142 + 1)))) (fun _ hk => hk.2) (.slice Ao64 t156.length co64)) (fun _ hk => hk.1)), Q_X10_, Q_NE⟩
     refine steps_cons ?_ ?_
     ·rintro b a w' ⟨v152, v155, m9_, m10_, ha, Q_HO_141001, Q_BK140, Q_BK141, Q_BK146, Q_HB, Q_HO153, Q_HO156, Q_BK141_e11, Q_X9_, Q_X10_, Q_NE⟩ hb_ hon hoff
      refine ⟨_, rfl, fun K hK => ?_⟩
      replace ha := Aside0.mk ha
      skip
      have BK140 := Aside0.mk Q_BK140
      have BK146 := Aside0.mk Q_BK146
      have HB := Aside0.mk Q_HB
      have HO153 := Aside0.mk (Q_X9_ (hon 9 (by kernel_rfl)))
      have HO156 := Aside0.mk (Q_HO156 (hon 8 (by kernel_rfl)))
      have BK141 := Aside0.mk (Q_BK141_e11 (hon 11 (by kernel_rfl)))
      refine value_ (w1 := w') (v := .bool true) (by rfl) rfl ?_ ?_
      ·go_simp
       (try simp only [i64_w])
       try rfl
      refine hK.out _ _ ⟨v152, v155, m9_, m10_, (by rw [ha.out]; exact putSel_upk 8 hb_ rfl rfl rfl), Q_HO_141001, Q_BK140, fun h0_ => absurd ((hon 11 (by kernel_rfl)).symm.trans h0_) (by decide), Q_BK146, Q_HB, Q_HO153, Q_HO156, Q_BK141_e11, Q_X9_, Q_X10_, Q_NE⟩
     exact steps_nil
    rintro b a w65 hall ⟨v152, v155, m9_, m10_, ha, Q_HO_141001, Q_BK140, Q_BK141, Q_BK146, Q_HB, Q_HO153, Q_HO156, Q_BK141_e11, Q_X9_, Q_X10_, Q_NE⟩
    clear BK140 BK141 BK146 HB HO_141001
    have hb1_ := hall 1 (by kernel_rfl)
    have hb2_ := hall 2 (by kernel_rfl)
    have hb4_ := hall 4 (by kernel_rfl)
    have hb5_ := hall 5 (by kernel_rfl)
    have hb7_ := hall 7 (by kernel_rfl)
    have hb8_ := hall 8 (by kernel_rfl)
    have hb9_ := hall 9 (by kernel_rfl)
    have hb10_ := hall 10 (by kernel_rfl)
    have hb11_ := hall 11 (by kernel_rfl)
    have hb12_ := hall 12 (by kernel_rfl)
    subst ha
    skip
    obtain rfl := Q_X10_ hb10_
    simp only [putSel, hb1_, hb2_, hb4_, hb5_, hb7_, hb8_, hb9_, hb10_, hb11_, hb12_, if_true, Act.put, List.setIfInBounds_toArray, List.set_cons_zero, List.set_cons_succ]
    skip
    clear Q_HO_141001
    have BK140 := Aside0.mk Q_BK140
    clear Q_BK140
    clear Q_BK141
    have BK146 := Aside0.mk Q_BK146
    clear Q_BK146
    have HB := Aside0.mk Q_HB
    clear Q_HB
    have HO153 := Aside0.mk (Q_X9_ hb9_)
    clear Q_HO153
    have HO156 := Aside0.mk (Q_HO156 hb8_)
    clear Q_HO156
    have BK141 := Aside0.mk (Q_BK141_e11 hb11_)
    clear Q_BK141_e11
    clear hall hb1_ hb2_ hb4_ hb5_ hb7_ hb8_ hb9_ hb10_ hb11_ hb12_
    obtain ⟨Ao66, co66, eo66⟩ := Kd.R_slice HO153.out
    (first | subst eo66 | (injection eo66 with f1_ f2_ f3_; have f4_ := f1_.symm; have f5_ := f3_.symm; clear f1_ f2_ f3_; subst f4_; subst f5_))
    try go_wp2
    refine bodyPost_ret (results_ct rfl _ _ gb141 29 #[.int .i64 (wrap64 (t142 + 1)), .slice Ao66 t156.length co66] (0, 0) _ rfl (by (with_reducible repeat (first | refine blk_drewN ?_ _ | refine blk_drew ?_ | refine blk_alloc ?_ _)); exact BK141.out) Try.underlying29 rfl (by kernel_rfl)) rfl ?_
    exact ⟨_, by first | rfl | (simp [errW_none, errW_some] <;> rfl) | (simp [*, errW_none, errW_some] <;> rfl), Kd.V_mono (Kd.R_V (by (with_reducible repeat (first | apply Kd.R_alloc | apply Kd.R_drewN | apply Kd.R_drew)); exact Kd.R_mono HO153.out (fun _ hk => hk.1))) (fun k_ hk => by first | exact ⟨(.inr (hk.1)), hk.2⟩ | exact (.inr (hk))), by repeat (first | (with_reducible first | exact HB.out | apply below_alloc | apply pw_below_drewN | apply below_drew1 | refine below_set ?_ GE140.out | refine below_set ?_ GE141.out | refine below_set ?_ GE146.out) | exact HB.out)⟩


end Go.Proofs.Ytnlnojolodnheaa.P
