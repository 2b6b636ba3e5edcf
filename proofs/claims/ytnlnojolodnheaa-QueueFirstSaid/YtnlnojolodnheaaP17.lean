-- Written by a program of this session (xprint.py, asm.py).
import Derived.Test.YtnlnojolodnheaaP0
import Derived.Test.YtnlnojolodnheaaP1
import Derived.Test.YtnlnojolodnheaaP3
import Derived.Test.YtnlnojolodnheaaP10
import Derived.Test.YtnlnojolodnheaaA
import Derived.Test.YtnlnojolodnheaaP11
import Derived.Test.YtnlnojolodnheaaP14
import Derived.Test.YtnlnojolodnheaaP15
import Derived.Test.YtnlnojolodnheaaP16
import Derived.Test.YtnlnojolodnheaaX
import Derived.Test.YtnlnojolodnheaaF
import Derived.Test.YtnlnojolodnheaaD
import Derived.Test.YtnlnojolodnheaaI
namespace Go.Proofs.Ytnlnojolodnheaa.P
open Go.Proofs.YtnlnojolodnheaaX Go.Proofs.YtnlnojolodnheaaF Go.RowKit Go.Proofs.YtnlnojolodnheaaW.PrintWords Go.Proofs.YtnlnojolodnheaaW.PrintLast Go.Proofs.YtnlnojolodnheaaW.PrintMore
attribute [local go_sem] max2_int min2_int max_two min_two max_three min_three max_four min_four   -- for this text's walks alone
attribute [local go_sem high] eqA34
set_option linter.unusedVariables false
set_option linter.unusedSimpArgs false

/-! ### tenterhooklaw16_QueueFirst: function 3 -/
mutual
def tenterhooklaw16_QueueFirst.j0 : Nat → Bool → Bool → Int → List (S34) → Option (Bool)
 | 0, _, _, _, _ => none
 | k + 1, x3, x22, x236000, x236001 => if x22 = true then (some x3) else ((tenterhooklaw16_line.f k x236000 x236001).bind fun bt242 => ((queue_Take.f k bt242.1 bt242.2).bind fun bt246 => (if bt246.2.2.2 = true then (tenterhooklaw16_QueueFirst.l0 k x3 bt246.2.2.1 (-1) 0 x236000 x236001 bt246.1 bt246.2.1) else (if x3 = true then (some ((x236001.length : Int) == 0)) else (some false)))))
def tenterhooklaw16_QueueFirst.l0 : Nat → Bool → Int → Int → Int → Int → List (S34) → Int → List (S60) → Option (Bool)
 | 0, _, _, _, _, _, _, _, _ => none
 | k + 1, x3, x5, x7, x8, x236000, x236001, x253000, x253001 => if x8 < (x236001.length : Int) then (if 0 ≤ x8 then (if ((rd_T34 x236001 x8).f0) = x5 then (tenterhooklaw16_QueueFirst.l0 k x3 x5 x8 (wrap64 (x8 + 1)) x236000 x236001 x253000 x253001) else (tenterhooklaw16_QueueFirst.l0 k x3 x5 x7 (wrap64 (x8 + 1)) x236000 x236001 x253000 x253001)) else (none)) else (if x7 < 0 then (tenterhooklaw16_QueueFirst.j2 k x3 x7 true x236000 x236001 x253000 x253001) else (if (x253001.length : Int) = (wrap64 ((x236001.length : Int) - 1)) then (tenterhooklaw16_QueueFirst.j2 k x3 x7 (x253000 != x236000) x236000 x236001 x253000 x253001) else (tenterhooklaw16_QueueFirst.j2 k x3 x7 true x236000 x236001 x253000 x253001)))
def tenterhooklaw16_QueueFirst.j2 : Nat → Bool → Int → Bool → Int → List (S34) → Int → List (S60) → Option (Bool)
 | 0, _, _, _, _, _, _, _ => none
 | k + 1, x3, x7, x74, x236000, x236001, x253000, x253001 => if x74 = true then (some false) else (tenterhooklaw16_QueueFirst.l1 k x3 x7 0 x236000 x236001 x253000 x253001)
def tenterhooklaw16_QueueFirst.l1 : Nat → Bool → Int → Int → Int → List (S34) → Int → List (S60) → Option (Bool)
 | 0, _, _, _, _, _, _, _ => none
 | k + 1, x3, x7, x9, x236000, x236001, x253000, x253001 => if x9 < (x236001.length : Int) then (if 0 ≤ x9 then (if 0 ≤ x7 then (if x7 < (x236001.length : Int) then (if ((rd_T34 x236001 x9).f1) > ((rd_T34 x236001 x7).f1) then (some false) else (if ((rd_T34 x236001 x9).f1) = ((rd_T34 x236001 x7).f1) then (if ((rd_T34 x236001 x9).f2) < ((rd_T34 x236001 x7).f2) then (some false) else (tenterhooklaw16_QueueFirst.l1 k x3 x7 (wrap64 (x9 + 1)) x236000 x236001 x253000 x253001)) else (tenterhooklaw16_QueueFirst.l1 k x3 x7 (wrap64 (x9 + 1)) x236000 x236001 x253000 x253001))) else (none)) else (none)) else (none)) else (tenterhooklaw16_QueueFirst.l2 k x3 0 x236000 x236001 x253000 x253001)
def tenterhooklaw16_QueueFirst.l2 : Nat → Bool → Int → Int → List (S34) → Int → List (S60) → Option (Bool)
 | 0, _, _, _, _, _, _ => none
 | k + 1, x3, x11, x236000, x236001, x253000, x253001 => if x11 < (x253001.length : Int) then ((tenterhooklaw16_lined.f k x253000 x253001).bind fun bt259 => (if 0 ≤ x11 then (if x11 < (bt259.2.length : Int) then (if 0 ≤ (wrap64 (x11 + 1)) then (if (wrap64 (x11 + 1)) < (x236001.length : Int) then (if (!(((rd_T34 bt259.2 x11).f0) == ((rd_T34 x236001 (wrap64 (x11 + 1))).f0)) || (!(((rd_T34 bt259.2 x11).f1) == ((rd_T34 x236001 (wrap64 (x11 + 1))).f1)) || (!(((rd_T34 bt259.2 x11).f2) == ((rd_T34 x236001 (wrap64 (x11 + 1))).f2))))) = true then (some false) else (tenterhooklaw16_QueueFirst.l2 k x3 (wrap64 (x11 + 1)) x236000 x236001 x253000 x253001)) else (none)) else (none)) else (none)) else (none))) else (some x3)
end
def tenterhooklaw16_QueueFirst.f (k : Nat) (a0_0 : Int) (l0_1 : List (S34)) : Option (Bool) := (tenterhooklaw16_awake.f k).bind fun t236 => (if (l0_1.length : Int) > 30 then (tenterhooklaw16_QueueFirst.j0 k t236 true a0_0 l0_1) else ((tenterhooklaw16_line.f k a0_0 l0_1).bind fun bt237 => ((queue_Sane.f k bt237.1 bt237.2).bind fun t241 => (tenterhooklaw16_QueueFirst.j0 k t236 (!t241) a0_0 l0_1))))
theorem tenterhooklaw16_QueueFirst.mono_l : ∀ k, (∀ y0 y1 y2 y3, LeO (tenterhooklaw16_QueueFirst.j0 k y0 y1 y2 y3) (tenterhooklaw16_QueueFirst.j0 (k + 1) y0 y1 y2 y3)) ∧ (∀ y0 y1 y2 y3 y4 y5 y6 y7, LeO (tenterhooklaw16_QueueFirst.l0 k y0 y1 y2 y3 y4 y5 y6 y7) (tenterhooklaw16_QueueFirst.l0 (k + 1) y0 y1 y2 y3 y4 y5 y6 y7)) ∧ (∀ y0 y1 y2 y3 y4 y5 y6, LeO (tenterhooklaw16_QueueFirst.j2 k y0 y1 y2 y3 y4 y5 y6) (tenterhooklaw16_QueueFirst.j2 (k + 1) y0 y1 y2 y3 y4 y5 y6)) ∧ (∀ y0 y1 y2 y3 y4 y5 y6, LeO (tenterhooklaw16_QueueFirst.l1 k y0 y1 y2 y3 y4 y5 y6) (tenterhooklaw16_QueueFirst.l1 (k + 1) y0 y1 y2 y3 y4 y5 y6)) ∧ (∀ y0 y1 y2 y3 y4 y5, LeO (tenterhooklaw16_QueueFirst.l2 k y0 y1 y2 y3 y4 y5) (tenterhooklaw16_QueueFirst.l2 (k + 1) y0 y1 y2 y3 y4 y5))
 | 0 => ⟨fun _ _ _ _ r h => by simp [tenterhooklaw16_QueueFirst.j0] at h, fun _ _ _ _ _ _ _ _ r h => by simp [tenterhooklaw16_QueueFirst.l0] at h, fun _ _ _ _ _ _ _ r h => by simp [tenterhooklaw16_QueueFirst.j2] at h, fun _ _ _ _ _ _ _ r h => by simp [tenterhooklaw16_QueueFirst.l1] at h, fun _ _ _ _ _ _ r h => by simp [tenterhooklaw16_QueueFirst.l2] at h⟩
 | k + 1 => by
  obtain ⟨ih0, ih1, ih2, ih3, ih4⟩ := tenterhooklaw16_QueueFirst.mono_l k
  refine ⟨?_, ?_, ?_, ?_, ?_⟩
  ·intro y0 y1 y2 y3
   unfold tenterhooklaw16_QueueFirst.j0
   repeat' first
   | (with_reducible exact ih0 _ _ _ _)
   | (with_reducible exact ih1 _ _ _ _ _ _ _ _)
   | (with_reducible exact ih2 _ _ _ _ _ _ _)
   | (with_reducible exact ih3 _ _ _ _ _ _ _)
   | (with_reducible exact ih4 _ _ _ _ _ _)
   | (with_reducible exact queue_Sane.mono _ _ _)
   | (with_reducible exact queue_Take.mono _ _ _)
   | (with_reducible exact tenterhooklaw16_awake.mono _)
   | (with_reducible exact tenterhooklaw16_line.mono _ _ _)
   | (with_reducible exact tenterhooklaw16_lined.mono _ _ _)
   | (with_reducible exact LeO.refl _)
   | (with_reducible exact LeO.none _)
   | (with_reducible refine LeO.ite ?_ ?_)
   | (with_reducible refine LeO.bind ?_ (fun _ => ?_))
   | exact ih0 _ _ _ _
   | exact ih1 _ _ _ _ _ _ _ _
   | exact ih2 _ _ _ _ _ _ _
   | exact ih3 _ _ _ _ _ _ _
   | exact ih4 _ _ _ _ _ _
   | exact queue_Sane.mono _ _ _
   | exact queue_Take.mono _ _ _
   | exact tenterhooklaw16_awake.mono _
   | exact tenterhooklaw16_line.mono _ _ _
   | exact tenterhooklaw16_lined.mono _ _ _
   | exact LeO.none _
   | refine LeO.ite ?_ ?_
   | refine LeO.bind ?_ (fun _ => ?_)
  ·intro y0 y1 y2 y3 y4 y5 y6 y7
   unfold tenterhooklaw16_QueueFirst.l0
   repeat' first
   | (with_reducible exact ih0 _ _ _ _)
   | (with_reducible exact ih1 _ _ _ _ _ _ _ _)
   | (with_reducible exact ih2 _ _ _ _ _ _ _)
   | (with_reducible exact ih3 _ _ _ _ _ _ _)
   | (with_reducible exact ih4 _ _ _ _ _ _)
   | (with_reducible exact queue_Sane.mono _ _ _)
   | (with_reducible exact queue_Take.mono _ _ _)
   | (with_reducible exact tenterhooklaw16_awake.mono _)
   | (with_reducible exact tenterhooklaw16_line.mono _ _ _)
   | (with_reducible exact tenterhooklaw16_lined.mono _ _ _)
   | (with_reducible exact LeO.refl _)
   | (with_reducible exact LeO.none _)
   | (with_reducible refine LeO.ite ?_ ?_)
   | (with_reducible refine LeO.bind ?_ (fun _ => ?_))
   | exact ih0 _ _ _ _
   | exact ih1 _ _ _ _ _ _ _ _
   | exact ih2 _ _ _ _ _ _ _
   | exact ih3 _ _ _ _ _ _ _
   | exact ih4 _ _ _ _ _ _
   | exact queue_Sane.mono _ _ _
   | exact queue_Take.mono _ _ _
   | exact tenterhooklaw16_awake.mono _
   | exact tenterhooklaw16_line.mono _ _ _
   | exact tenterhooklaw16_lined.mono _ _ _
   | exact LeO.none _
   | refine LeO.ite ?_ ?_
   | refine LeO.bind ?_ (fun _ => ?_)
  ·intro y0 y1 y2 y3 y4 y5 y6
   unfold tenterhooklaw16_QueueFirst.j2
   repeat' first
   | (with_reducible exact ih0 _ _ _ _)
   | (with_reducible exact ih1 _ _ _ _ _ _ _ _)
   | (with_reducible exact ih2 _ _ _ _ _ _ _)
   | (with_reducible exact ih3 _ _ _ _ _ _ _)
   | (with_reducible exact ih4 _ _ _ _ _ _)
   | (with_reducible exact queue_Sane.mono _ _ _)
   | (with_reducible exact queue_Take.mono _ _ _)
   | (with_reducible exact tenterhooklaw16_awake.mono _)
   | (with_reducible exact tenterhooklaw16_line.mono _ _ _)
   | (with_reducible exact tenterhooklaw16_lined.mono _ _ _)
   | (with_reducible exact LeO.refl _)
   | (with_reducible exact LeO.none _)
   | (with_reducible refine LeO.ite ?_ ?_)
   | (with_reducible refine LeO.bind ?_ (fun _ => ?_))
   | exact ih0 _ _ _ _
   | exact ih1 _ _ _ _ _ _ _ _
   | exact ih2 _ _ _ _ _ _ _
   | exact ih3 _ _ _ _ _ _ _
   | exact ih4 _ _ _ _ _ _
   | exact queue_Sane.mono _ _ _
   | exact queue_Take.mono _ _ _
   | exact tenterhooklaw16_awake.mono _
   | exact tenterhooklaw16_line.mono _ _ _
   | exact tenterhooklaw16_lined.mono _ _ _
   | exact LeO.none _
   | refine LeO.ite ?_ ?_
   | refine LeO.bind ?_ (fun _ => ?_)
  ·intro y0 y1 y2 y3 y4 y5 y6
   unfold tenterhooklaw16_QueueFirst.l1
   repeat' first
   | (with_reducible exact ih0 _ _ _ _)
   | (with_reducible exact ih1 _ _ _ _ _ _ _ _)
   | (with_reducible exact ih2 _ _ _ _ _ _ _)
   | (with_reducible exact ih3 _ _ _ _ _ _ _)
   | (with_reducible exact ih4 _ _ _ _ _ _)
   | (with_reducible exact queue_Sane.mono _ _ _)
   | (with_reducible exact queue_Take.mono _ _ _)
   | (with_reducible exact tenterhooklaw16_awake.mono _)
   | (with_reducible exact tenterhooklaw16_line.mono _ _ _)
   | (with_reducible exact tenterhooklaw16_lined.mono _ _ _)
   | (with_reducible exact LeO.refl _)
   | (with_reducible exact LeO.none _)
   | (with_reducible refine LeO.ite ?_ ?_)
   | (with_reducible refine LeO.bind ?_ (fun _ => ?_))
   | exact ih0 _ _ _ _
   | exact ih1 _ _ _ _ _ _ _ _
   | exact ih2 _ _ _ _ _ _ _
   | exact ih3 _ _ _ _ _ _ _
   | exact ih4 _ _ _ _ _ _
   | exact queue_Sane.mono _ _ _
   | exact queue_Take.mono _ _ _
   | exact tenterhooklaw16_awake.mono _
   | exact tenterhooklaw16_line.mono _ _ _
   | exact tenterhooklaw16_lined.mono _ _ _
   | exact LeO.none _
   | refine LeO.ite ?_ ?_
   | refine LeO.bind ?_ (fun _ => ?_)
  ·intro y0 y1 y2 y3 y4 y5
   unfold tenterhooklaw16_QueueFirst.l2
   repeat' first
   | (with_reducible exact ih0 _ _ _ _)
   | (with_reducible exact ih1 _ _ _ _ _ _ _ _)
   | (with_reducible exact ih2 _ _ _ _ _ _ _)
   | (with_reducible exact ih3 _ _ _ _ _ _ _)
   | (with_reducible exact ih4 _ _ _ _ _ _)
   | (with_reducible exact queue_Sane.mono _ _ _)
   | (with_reducible exact queue_Take.mono _ _ _)
   | (with_reducible exact tenterhooklaw16_awake.mono _)
   | (with_reducible exact tenterhooklaw16_line.mono _ _ _)
   | (with_reducible exact tenterhooklaw16_lined.mono _ _ _)
   | (with_reducible exact LeO.refl _)
   | (with_reducible exact LeO.none _)
   | (with_reducible refine LeO.ite ?_ ?_)
   | (with_reducible refine LeO.bind ?_ (fun _ => ?_))
   | exact ih0 _ _ _ _
   | exact ih1 _ _ _ _ _ _ _ _
   | exact ih2 _ _ _ _ _ _ _
   | exact ih3 _ _ _ _ _ _ _
   | exact ih4 _ _ _ _ _ _
   | exact queue_Sane.mono _ _ _
   | exact queue_Take.mono _ _ _
   | exact tenterhooklaw16_awake.mono _
   | exact tenterhooklaw16_line.mono _ _ _
   | exact tenterhooklaw16_lined.mono _ _ _
   | exact LeO.none _
   | refine LeO.ite ?_ ?_
   | refine LeO.bind ?_ (fun _ => ?_)
theorem tenterhooklaw16_QueueFirst.mono : ∀ a0 a1 k, LeO (tenterhooklaw16_QueueFirst.f k a0 a1) (tenterhooklaw16_QueueFirst.f (k + 1) a0 a1) := by
 intro a0 a1 k
 obtain ⟨ih0, ih1, ih2, ih3, ih4⟩ := tenterhooklaw16_QueueFirst.mono_l k
 unfold tenterhooklaw16_QueueFirst.f
 repeat' first
   | (with_reducible exact ih0 _ _ _ _)
   | (with_reducible exact ih1 _ _ _ _ _ _ _ _)
   | (with_reducible exact ih2 _ _ _ _ _ _ _)
   | (with_reducible exact ih3 _ _ _ _ _ _ _)
   | (with_reducible exact ih4 _ _ _ _ _ _)
   | (with_reducible exact queue_Sane.mono _ _ _)
   | (with_reducible exact queue_Take.mono _ _ _)
   | (with_reducible exact tenterhooklaw16_awake.mono _)
   | (with_reducible exact tenterhooklaw16_line.mono _ _ _)
   | (with_reducible exact tenterhooklaw16_lined.mono _ _ _)
   | (with_reducible exact LeO.refl _)
   | (with_reducible exact LeO.none _)
   | (with_reducible refine LeO.ite ?_ ?_)
   | (with_reducible refine LeO.bind ?_ (fun _ => ?_))
   | exact ih0 _ _ _ _
   | exact ih1 _ _ _ _ _ _ _ _
   | exact ih2 _ _ _ _ _ _ _
   | exact ih3 _ _ _ _ _ _ _
   | exact ih4 _ _ _ _ _ _
   | exact queue_Sane.mono _ _ _
   | exact queue_Take.mono _ _ _
   | exact tenterhooklaw16_awake.mono _
   | exact tenterhooklaw16_line.mono _ _ _
   | exact tenterhooklaw16_lined.mono _ _ _
   | exact LeO.none _
   | refine LeO.ite ?_ ?_
   | refine LeO.bind ?_ (fun _ => ?_)
def tenterhooklaw16_QueueFirst.T19 : Bool × List (List Nat × List Nat) := (true, [([], []), ([0], [0]), ([], []), ([2], [2]), ([], []), ([3, 4], [3, 4]), ([5], [5]), ([6], [6]), ([1, 7], [1, 7]), ([8], [8]), ([9], [9]), ([10, 9], [9, 10]), ([9], [9]), ([12, 9], [9, 12]), ([9], [9]), ([13, 14, 9], [9, 13, 14]), ([15, 9], [9, 15]), ([16, 9], [9, 16]), ([11, 17, 9], [9, 11, 17]), ([18, 9, 9], [9, 18]), ([19], [19]), ([20, 19], [19, 20]), ([19], [19]), ([22, 19], [19, 22]), ([19], [19]), ([23, 24, 19], [19, 23, 24]), ([25, 19], [19, 25]), ([26, 19], [19, 26]), ([21, 27, 19], [19, 21, 27]), ([19, 28, 9], [9, 19, 28]), ([9, 29], [9, 29])])
def tenterhooklaw16_QueueFirst.B19 : List Nat := [0, 1, 0, 4, 0, 28, 60, 124, 255, 511, 1023, 2047, 1023, 5119, 1023, 29695, 62463, 127999, 262143, 524287, 1048575, 2097151, 1048575, 5242879, 1048575, 30408703, 63963135, 131071999, 268435455, 536870911, 1073741823]
theorem tenterhooklaw16_QueueFirst.tab19 : rtab .any (opsOf Try.f3 19) = tenterhooklaw16_QueueFirst.T19 := by kernel_rfl
theorem tenterhooklaw16_QueueFirst.bits19 : waitsOk tenterhooklaw16_QueueFirst.T19.2 tenterhooklaw16_QueueFirst.B19 = true := by kernel_rfl
def tenterhooklaw16_QueueFirst.T24 : Bool × List (List Nat × List Nat) := (true, [([], []), ([0], [0]), ([1], [1]), ([], []), ([2, 3], [2, 3]), ([4], [4]), ([], []), ([6], [6]), ([], []), ([8], [8]), ([7, 9], [7, 9]), ([10], [10]), ([5, 11], [5, 11])])
def tenterhooklaw16_QueueFirst.B24 : List Nat := [0, 1, 3, 0, 15, 31, 0, 64, 0, 256, 960, 1984, 4095]
theorem tenterhooklaw16_QueueFirst.tab24 : rtab .any (opsOf Try.f3 24) = tenterhooklaw16_QueueFirst.T24 := by kernel_rfl
theorem tenterhooklaw16_QueueFirst.bits24 : waitsOk tenterhooklaw16_QueueFirst.T24.2 tenterhooklaw16_QueueFirst.B24 = true := by kernel_rfl
set_option maxHeartbeats 8000000 in
set_option maxRecDepth 100000 in
theorem tenterhooklaw16_QueueFirst.calls_true (k : Nat) (a0_0 : Int) (A0_1 : Option Addr) (c0_1 : Nat) (l0_1 : List (S34)) (r : Bool) (w : World) (hr0_1 : Kd.C k34 w A0_1 l0_1.length l0_1) (hc0_1 : l0_1.length ≤ c0_1) (hr : r = true) (h : tenterhooklaw16_QueueFirst.f k a0_0 l0_1 = some r) :
  Calls Try.prog 3 #[.agg #[.int .i64 a0_0, .slice A0_1 l0_1.length c0_1]] w fun e w' => e = .returned (.bool r) ∧ Below w.heap.size w w' := by
 have hu24 := Try.underlying24
 have hu29 := Try.underlying29
 have hu34 := Try.underlying34
 have HR0_1 := Aside0.mk hr0_1
 have HC0_1 := Aside0.mk hc0_1
 clear hr0_1 hc0_1
 have HB := Aside0.mk (Below.refl w.heap.size w)
 have H : ((tenterhooklaw16_awake.f k).bind fun t236 => (if (l0_1.length : Int) > 30 then (tenterhooklaw16_QueueFirst.j0 k t236 true a0_0 l0_1) else ((tenterhooklaw16_line.f k a0_0 l0_1).bind fun bt237 => ((queue_Sane.f k bt237.1 bt237.2).bind fun t241 => (tenterhooklaw16_QueueFirst.j0 k t236 (!t241) a0_0 l0_1))))) = some r := h
 clear h
 replace H := Option.bind_eq_some_iff.mp H
 obtain ⟨t236, A20, H⟩ := H
 replace H : (if (l0_1.length : Int) > 30 then (tenterhooklaw16_QueueFirst.j0 k t236 true a0_0 l0_1) else ((tenterhooklaw16_line.f k a0_0 l0_1).bind fun bt237 => ((queue_Sane.f k bt237.1 bt237.2).bind fun t241 => (tenterhooklaw16_QueueFirst.j0 k t236 (!t241) a0_0 l0_1)))) = some r := H
 have A2 := Aside0.mk A20
 clear A20
 have HC3 := Aside0.mk H
 clear H
 have hfl_ := field24
 go_enter Try.func3, Try.ntmps3
 go_upto_region 2 with (first | ((with_reducible refine gate_dst (N := 1) rfl ?_); (try (refine gate_guard (by rfl) ?_; dsimp only)); refine box_event ?hg (N := 1) ?hd (cs := #[.int .i64 a0_0, .slice A0_1 l0_1.length c0_1]) (t := 24) ?hr ?_; (case hd => rfl); (case hg => rfl); (case hr => first | (go_simp; done) | (go_simp; rfl)); intro gb235 hg w4 hbox hb; have n0_ := Aside0.mk (below_step (by repeat (first | (with_reducible first | exact HB.out | apply below_alloc | apply pw_below_drewN | apply below_drew1) | exact HB.out)) hb); have n1_ := Aside0.mk (hbox); have n2_ := Aside0.mk ((by rw [hg]; exact (below_size (by repeat (first | (with_reducible first | exact HB.out | apply below_alloc | apply pw_below_drewN | apply below_drew1) | exact HB.out))) : w.heap.size ≤ gb235)); have n3_ := Aside0.mk ((by rw [hg]; exact (below_size (by repeat (first | (with_reducible first | exact HB.out | apply below_alloc | apply pw_below_drewN | apply below_drew1) | exact HB.out))) : w.heap.size ≤ gb235)); clear HB; have HB := n0_; have BK235 := n1_; have GW235 := n2_; have GE235 := n3_; clear n0_ n1_ n2_ n3_; clear hb hbox hg) | ((with_reducible refine gate_callee (f := 8) rfl ?_); refine goesL_ (some 12) rfl rfl Try.func8 (by kernel_rfl) rfl #[] rfl (by (try simp only [List.map_toArray, List.map_cons, List.map_nil]); first | done | rfl | (simp only [List.length_drop, List.length_take]; rfl)) ?_; (with_reducible refine (tenterhooklaw16_awake.calls k  t236 _ A2.out).mono ?_); rintro e w5 ⟨rfl, hb⟩; clear A2; refine ⟨_, rfl, ?_⟩; have n0_ := Aside0.mk (blk_below (g := gb235) (o := .cells #[.int .i64 a0_0, .slice A0_1 l0_1.length c0_1] 24 (0, 0)) (by (with_reducible repeat (first | refine blk_drewN ?_ _ | refine blk_drew ?_ | refine blk_alloc ?_ _)); exact BK235.out) hb); have n1_ := Aside0.mk (below_step (by repeat (first | (with_reducible first | exact HB.out | apply below_alloc | apply pw_below_drewN | apply below_drew1 | refine below_set ?_ GE235.out) | exact HB.out)) hb); clear BK235; clear HB; have BK235 := n0_; have HB := n1_; clear n0_ n1_; (try clear hb); (try clear hb2); (try clear hk); (try clear hi)))
 (try simp only [Act.put, List.setIfInBounds_toArray, List.set_cons_zero, List.set_cons_succ])
 go_cut [22] (fun v22 wc => ∃ (kq : Nat) (x22_2 : Bool), v22 = .bool x22_2 ∧ Aside0 (tenterhooklaw16_QueueFirst.j0 kq t236 x22_2 a0_0 l0_1 = some r) ∧ Aside0 (kq ≤ k) ∧ Aside0 (wc.heap[gb235]? = some (.cells #[.int .i64 a0_0, (.slice A0_1 l0_1.length c0_1)] 24 (0, 0))) ∧ Aside0 (Below w.heap.size w wc))
 case first =>
  have H := HC3.out
  clear HC3
  by_cases c6 : (l0_1.length : Int) > 30
  ·rw [if_pos c6] at H
   have c6b0 : decide (30 < (l0_1.length : Int)) = true := decide_eq_true c6
   have c6b1 : decide (30 < l0_1.length) = true := decide_eq_true (by omega)
   clear c6
   (first | rw [c6b0] | (simp only [i64_w, i32_w]; rw [c6b0]) | skip)
   have H' := Aside0.mk H
   clear H
   have hcz7_0 : w5.cell? ⟨gb235, 0, none⟩ = some (.int .i64 a0_0) := (blk_cell BK235.out 0).trans rfl
   have hcz7_1 : w5.cell? ⟨gb235, 1, none⟩ = some (.slice A0_1 l0_1.length c0_1) := (blk_cell BK235.out 1).trans rfl
   have hfz7_0 := blk_frozen BK235.out 0
   have hfz7_1 := blk_frozen BK235.out 1
   go_wp2
   go_meet
   case rel => exact ⟨_, (true), (by first | rfl | (simp; done) | (simp [*]; done)), H', ⟨by first | omega | exact Nat.le_refl _⟩, ⟨by (with_reducible repeat (first | refine blk_drewN ?_ _ | refine blk_drew ?_ | refine blk_alloc ?_ _)); exact BK235.out⟩, ⟨by repeat (first | (with_reducible first | exact HB.out | apply below_alloc | apply pw_below_drewN | apply below_drew1 | refine below_set ?_ GE235.out) | exact HB.out)⟩⟩
  ·rw [if_neg c6] at H
   have c6b0 : decide (30 < (l0_1.length : Int)) = false := decide_eq_false c6
   have c6b1 : decide (30 < l0_1.length) = false := decide_eq_false (by omega)
   clear c6
   (first | rw [c6b0] | (simp only [i64_w, i32_w]; rw [c6b0]) | skip)
   replace H := Option.bind_eq_some_iff.mp H
   obtain ⟨⟨t237, t238⟩, A80, H⟩ := H
   replace H : ((queue_Sane.f k t237 t238).bind fun t241 => (tenterhooklaw16_QueueFirst.j0 k t236 (!t241) a0_0 l0_1)) = some r := H
   have A8 := Aside0.mk A80
   clear A80
   replace H := Option.bind_eq_some_iff.mp H
   obtain ⟨t241, A90, H⟩ := H
   replace H : (tenterhooklaw16_QueueFirst.j0 k t236 (!t241) a0_0 l0_1) = some r := H
   have A9 := Aside0.mk A90
   clear A90
   have H' := Aside0.mk H
   clear H
   have hcz10_0 : w5.cell? ⟨gb235, 0, none⟩ = some (.int .i64 a0_0) := (blk_cell BK235.out 0).trans rfl
   have hcz10_1 : w5.cell? ⟨gb235, 1, none⟩ = some (.slice A0_1 l0_1.length c0_1) := (blk_cell BK235.out 1).trans rfl
   have hfz10_0 := blk_frozen BK235.out 0
   have hfz10_1 := blk_frozen BK235.out 1
   go_wp2_with (first | (go_at_call 10; (with_reducible refine (tenterhooklaw16_line.calls k a0_0 _ _ l0_1 t237 t238 _ ?side1 ?side2 A8.out).mono ?_); (case side1 => repeat (first | exact (Kd.C_below HR0_1.out HB.out) | (with_reducible refine Kd.C_alloc ?_ _) | (with_reducible refine Kd.C_drewN ?_ _) | (with_reducible refine Kd.C_drew ?_))); (case side2 => exact HC0_1.out); rintro e w11 ⟨v239, rfl, ho0, hb⟩; clear A8; have n0_ := Aside0.mk (Kd.R_lower ho0 (below_size (by repeat (first | (with_reducible first | exact HB.out | apply below_alloc | apply pw_below_drewN | apply below_drew1 | refine below_set ?_ GE235.out) | exact HB.out)))); have n1_ := Aside0.mk (blk_below (g := gb235) (o := .cells #[.int .i64 a0_0, .slice A0_1 l0_1.length c0_1] 24 (0, 0)) (by (with_reducible repeat (first | refine blk_drewN ?_ _ | refine blk_drew ?_ | refine blk_alloc ?_ _)); exact BK235.out) hb); have n2_ := Aside0.mk (below_step (by repeat (first | (with_reducible first | exact HB.out | apply below_alloc | apply pw_below_drewN | apply below_drew1 | refine below_set ?_ GE235.out) | exact HB.out)) hb); clear BK235; clear HB; have HO240 := n0_; have BK235 := n1_; have HB := n2_; clear n0_ n1_ n2_; (try clear hb); (try clear hb2); (try clear hk); (try clear hi); (try clear ho0); obtain ⟨Ao12, co12, eo12⟩ := Kd.R_slice HO240.out; subst eo12) | (go_at_call 9; (with_reducible refine (queue_Sane.calls k t237 _ _ t238 t241 _ ?side1 ?side2 A9.out).mono ?_); (case side1 => repeat (first | exact (Kd.R_reads' HO240.out).2.2 | (with_reducible refine Kd.C_alloc ?_ _) | (with_reducible refine Kd.C_drewN ?_ _) | (with_reducible refine Kd.C_drew ?_))); (case side2 => exact (Kd.R_reads' HO240.out).2.1); rintro e w13 ⟨rfl, hb⟩; clear A9; have n0_ := Aside0.mk (Kd.R_below (by (with_reducible repeat (first | apply Kd.R_alloc | apply Kd.R_drewN | apply Kd.R_drew)); exact HO240.out) hb); have n1_ := Aside0.mk (blk_below (g := gb235) (o := .cells #[.int .i64 a0_0, .slice A0_1 l0_1.length c0_1] 24 (0, 0)) (by (with_reducible repeat (first | refine blk_drewN ?_ _ | refine blk_drew ?_ | refine blk_alloc ?_ _)); exact BK235.out) hb); have n2_ := Aside0.mk (below_step (by repeat (first | (with_reducible first | exact HB.out | apply below_alloc | apply pw_below_drewN | apply below_drew1 | refine below_set ?_ GE235.out) | exact HB.out)) hb); clear HO240; clear BK235; clear HB; have HO240 := n0_; have BK235 := n1_; have HB := n2_; clear n0_ n1_ n2_; (try clear hb); (try clear hb2); (try clear hk); (try clear hi)))
   go_meet
   case rel => exact ⟨_, (!t241), (by first | rfl | (simp; done) | (simp [*]; done)), H', ⟨by first | omega | exact Nat.le_refl _⟩, ⟨by (with_reducible repeat (first | refine blk_drewN ?_ _ | refine blk_drew ?_ | refine blk_alloc ?_ _)); exact BK235.out⟩, ⟨by repeat (first | (with_reducible first | exact HB.out | apply below_alloc | apply pw_below_drewN | apply below_drew1 | refine below_set ?_ GE235.out) | exact HB.out)⟩⟩
 case rest =>
  clear HC3
  try clear p2
  try clear c3
  try clear c6
  try clear c6b0
  try clear c6b1
  try clear c8
  try clear hcz10_0
  try clear hcz10_1
  try clear hcz7_0
  try clear hcz7_1
  try clear hfz10_0
  try clear hfz10_1
  try clear hfz7_0
  try clear hfz7_1
  obtain ⟨kq, x22_2, rfl, HA, HJ2, BK235, HB⟩ := hcut
  cases kq with
  | zero => exact absurd HA.out (by simp [tenterhooklaw16_QueueFirst.j0])
  | succ kj2 =>
   have H := HA.out
   clear HA
   simp only [tenterhooklaw16_QueueFirst.j0] at H
   by_cases c14 : x22_2 = true
   ·subst c14
    have H1 : (some t236) = some r := by rw [if_pos rfl] at H; exact H
    clear H
    have H := H1
    clear H1
    obtain rfl := Option.some.inj H
    go_wp2
    go_ret
    exact ⟨by first | rfl | (simp [errW_none, errW_some] <;> rfl) | (simp [*, errW_none, errW_some] <;> rfl), by repeat (first | (with_reducible first | exact HB.out | apply below_alloc | apply pw_below_drewN | apply below_drew1 | refine below_set ?_ GE235.out) | exact HB.out)⟩
   ·replace c14 := Bool.eq_false_iff.mpr c14
    subst c14
    have H1 : ((tenterhooklaw16_line.f kj2 a0_0 l0_1).bind fun bt242 => ((queue_Take.f kj2 bt242.1 bt242.2).bind fun bt246 => (if bt246.2.2.2 = true then (tenterhooklaw16_QueueFirst.l0 kj2 t236 bt246.2.2.1 (-1) 0 a0_0 l0_1 bt246.1 bt246.2.1) else (if t236 = true then (some ((l0_1.length : Int) == 0)) else (some false))))) = some r := by rw [if_neg (show ¬ (false = true) by decide)] at H; exact H
    clear H
    have H := H1
    clear H1
    replace H := Option.bind_eq_some_iff.mp H
    obtain ⟨⟨t242, t243⟩, A150, H⟩ := H
    replace H : ((queue_Take.f kj2 t242 t243).bind fun bt246 => (if bt246.2.2.2 = true then (tenterhooklaw16_QueueFirst.l0 kj2 t236 bt246.2.2.1 (-1) 0 a0_0 l0_1 bt246.1 bt246.2.1) else (if t236 = true then (some ((l0_1.length : Int) == 0)) else (some false)))) = some r := H
    have A15 := Aside0.mk A150
    clear A150
    replace H := Option.bind_eq_some_iff.mp H
    obtain ⟨⟨t246, t247, t250, t251⟩, A160, H⟩ := H
    replace H : (if t251 = true then (tenterhooklaw16_QueueFirst.l0 kj2 t236 t250 (-1) 0 a0_0 l0_1 t246 t247) else (if t236 = true then (some ((l0_1.length : Int) == 0)) else (some false))) = some r := H
    have A16 := Aside0.mk A160
    clear A160
    by_cases c17 : t251 = true
    ·subst c17
     have H1 : (tenterhooklaw16_QueueFirst.l0 kj2 t236 t250 (-1) 0 a0_0 l0_1 t246 t247) = some r := by rw [if_pos rfl] at H; exact H
     clear H
     have H := H1
     clear H1
     have H' := Aside0.mk H
     clear H
     have hcz18_0 : wc.cell? ⟨gb235, 0, none⟩ = some (.int .i64 a0_0) := (blk_cell BK235.out 0).trans rfl
     have hcz18_1 : wc.cell? ⟨gb235, 1, none⟩ = some (.slice A0_1 l0_1.length c0_1) := (blk_cell BK235.out 1).trans rfl
     have hfz18_0 := blk_frozen BK235.out 0
     have hfz18_1 := blk_frozen BK235.out 1
     go_wp2_with (first | ((with_reducible refine gate_callee (f := 10) rfl ?_); refine goesL_ (some 26) rfl rfl Try.func10 (by kernel_rfl) rfl #[.agg #[.int .i64 a0_0, .slice A0_1 l0_1.length c0_1]] rfl (by (try simp only [List.map_toArray, List.map_cons, List.map_nil]); first | done | rfl | (simp only [List.length_drop, List.length_take]; rfl)) ?_; (with_reducible refine (tenterhooklaw16_line.calls kj2 a0_0 _ _ l0_1 t242 t243 _ ?side1 ?side2 A15.out).mono ?_); (case side1 => repeat (first | exact (Kd.C_below HR0_1.out HB.out) | (with_reducible refine Kd.C_alloc ?_ _) | (with_reducible refine Kd.C_drewN ?_ _) | (with_reducible refine Kd.C_drew ?_))); (case side2 => exact HC0_1.out); rintro e w19 ⟨v244, rfl, ho0, hb⟩; clear A15; refine ⟨_, rfl, ?_⟩; have n0_ := Aside0.mk (Kd.R_lower ho0 (below_size (by repeat (first | (with_reducible first | exact HB.out | apply below_alloc | apply pw_below_drewN | apply below_drew1 | refine below_set ?_ GE235.out) | exact HB.out)))); have n1_ := Aside0.mk (blk_below (g := gb235) (o := .cells #[.int .i64 a0_0, .slice A0_1 l0_1.length c0_1] 24 (0, 0)) (by (with_reducible repeat (first | refine blk_drewN ?_ _ | refine blk_drew ?_ | refine blk_alloc ?_ _)); exact BK235.out) hb); have n2_ := Aside0.mk (below_step (by repeat (first | (with_reducible first | exact HB.out | apply below_alloc | apply pw_below_drewN | apply below_drew1 | refine below_set ?_ GE235.out) | exact HB.out)) hb); clear BK235; clear HB; have HO245 := n0_; have BK235 := n1_; have HB := n2_; clear n0_ n1_ n2_; (try clear hb); (try clear hb2); (try clear hk); (try clear hi); (try clear ho0); obtain ⟨Ao20, co20, eo20⟩ := Kd.R_slice HO245.out; subst eo20) | ((with_reducible refine gate_callee (f := 11) rfl ?_); refine goesL_ (some 27) rfl rfl Try.func11 (by kernel_rfl) rfl #[.agg #[.int .i64 t242, .slice Ao20 t243.length co20]] rfl (by (try simp only [List.map_toArray, List.map_cons, List.map_nil]); first | done | rfl | (simp only [List.length_drop, List.length_take]; rfl)) ?_; (with_reducible refine (queue_Take.calls kj2 t242 (fun k_ => some k_ = (.slice Ao20 t243.length co20 : Value).ownBlock) _ _ t243 t246 t247 t250 true _ ?side1 A16.out).mono ?_); (case side1 => exact Kd.R_V (Kd.R_tight rfl (Kd.R_types (HO245.out) BK235.out (by decide)))); rintro e w21 ⟨v248, rfl, ho0, hb⟩; clear A16; refine ⟨_, rfl, ?_⟩; have n0_ := Aside0.mk (Kd.R_below (by (with_reducible repeat (first | apply Kd.R_alloc | apply Kd.R_drewN | apply Kd.R_drew)); exact HO245.out) hb); have n1_ := Aside0.mk (Kd.V_lower (Kd.V_mono (ok' := fun k_ => k_ ≠ gb235) ho0 (fun k_ hk_ => Or.elim hk_ (fun hs_ => ((Kd.R_types (HO245.out) BK235.out (by decide)).1 k_ hs_.symm).2) (fun hn_ => (Kd.freshB (g := gb235) (o := .cells #[.int .i64 a0_0, .slice A0_1 l0_1.length c0_1] 24 (0, 0)) (by (with_reducible repeat (first | refine blk_drewN ?_ _ | refine blk_drew ?_ | refine blk_alloc ?_ _)); exact BK235.out) k_ hn_)))) (below_size (by repeat (first | (with_reducible first | exact HB.out | apply below_alloc | apply pw_below_drewN | apply below_drew1 | refine below_set ?_ GE235.out) | exact HB.out)))); have n2_ := Aside0.mk (blk_below (g := gb235) (o := .cells #[.int .i64 a0_0, .slice A0_1 l0_1.length c0_1] 24 (0, 0)) (by (with_reducible repeat (first | refine blk_drewN ?_ _ | refine blk_drew ?_ | refine blk_alloc ?_ _)); exact BK235.out) hb); have n3_ := Aside0.mk (below_step (by repeat (first | (with_reducible first | exact HB.out | apply below_alloc | apply pw_below_drewN | apply below_drew1 | refine below_set ?_ GE235.out) | exact HB.out)) hb); clear HO245; clear BK235; clear HB; have HO245 := n0_; have HO249 := n1_; have BK235 := n2_; have HB := n3_; clear n0_ n1_ n2_ n3_; (try clear hb); (try clear hb2); (try clear hk); (try clear hi); (try clear ho0)) | ((with_reducible refine gate_dst (N := 4) rfl ?_); (try (refine gate_guard (by rfl) ?_; dsimp only)); refine box_event ?hg (N := 4) ?hd (cs := #[.int .i64 0, .slice none 0 0]) (t := 29) ?hr ?_; (case hd => rfl); (case hg => rfl); (case hr => first | (go_simp; done) | (go_simp; rfl)); intro gb252 hg w22 hbox hb; have n0_ := Aside0.mk (Kd.R_below (by (with_reducible repeat (first | apply Kd.R_alloc | apply Kd.R_drewN | apply Kd.R_drew)); exact HO245.out) hb); have n1_ := Aside0.mk (Kd.V_below (Kd.V_elderB (by (with_reducible repeat (first | apply Kd.V_alloc | apply Kd.V_drewN | apply Kd.V_drew)); exact HO249.out) gb252 (Nat.le_of_eq hg.symm)) hb); have n2_ := Aside0.mk (blk_below (g := gb235) (o := .cells #[.int .i64 a0_0, .slice A0_1 l0_1.length c0_1] 24 (0, 0)) (by (with_reducible repeat (first | refine blk_drewN ?_ _ | refine blk_drew ?_ | refine blk_alloc ?_ _)); exact BK235.out) hb); have n3_ := Aside0.mk (below_step (by repeat (first | (with_reducible first | exact HB.out | apply below_alloc | apply pw_below_drewN | apply below_drew1 | refine below_set ?_ GE235.out) | exact HB.out)) hb); have n4_ := Aside0.mk (hbox); have n5_ := Aside0.mk ((by rw [hg]; exact (below_size (by repeat (first | (with_reducible first | exact HB.out | apply below_alloc | apply pw_below_drewN | apply below_drew1 | refine below_set ?_ GE235.out) | exact HB.out))) : w.heap.size ≤ gb252)); have n6_ := Aside0.mk ((by rw [hg]; exact (below_size (by repeat (first | (with_reducible first | exact HB.out | apply below_alloc | apply pw_below_drewN | apply below_drew1 | refine below_set ?_ GE235.out) | exact HB.out))) : w.heap.size ≤ gb252)); have n7_ := Aside0.mk ((by rw [hg]; exact Nat.ne_of_lt (blk_lt (g := gb235) (o := .cells #[.int .i64 a0_0, .slice A0_1 l0_1.length c0_1] 24 (0, 0)) (by (with_reducible repeat (first | refine blk_drewN ?_ _ | refine blk_drew ?_ | refine blk_alloc ?_ _)); exact BK235.out)) : gb235 ≠ gb252)); have n8_ := Aside0.mk ((by rw [hg]; exact Nat.ne_of_gt (blk_lt (g := gb235) (o := .cells #[.int .i64 a0_0, .slice A0_1 l0_1.length c0_1] 24 (0, 0)) (by (with_reducible repeat (first | refine blk_drewN ?_ _ | refine blk_drew ?_ | refine blk_alloc ?_ _)); exact BK235.out)) : gb252 ≠ gb235)); clear HO245; clear HO249; clear BK235; clear HB; have HO245 := n0_; have HO249 := n1_; have BK235 := n2_; have HB := n3_; have BK252 := n4_; have GW252 := n5_; have GE252 := n6_; have NB235_252 := n7_; have NB252_235 := n8_; clear n0_ n1_ n2_ n3_ n4_ n5_ n6_ n7_ n8_; clear hb hbox hg; have hnb23 := NB252_235.out; have hnc23 := NB235_252.out; have hcz24_0 : w22.cell? ⟨gb252, 0, none⟩ = some (.int .i64 0) := (blk_cell BK252.out 0).trans rfl; have hcz24_1 : w22.cell? ⟨gb252, 1, none⟩ = some (.slice none 0 0) := (blk_cell BK252.out 1).trans rfl; have hfz24_0 := blk_frozen BK252.out 0; have hfz24_1 := blk_frozen BK252.out 1; obtain ⟨Ao25, co25, eo25⟩ := Kd.V_slice HO249.out; subst eo25))
     go_loopg [7, 8] kj2 (fun kq v7 v8 w' => ∃ (x7_2 : Int) (x8_2 : Int), v7 = .int .i64 x7_2 ∧ v8 = .int .i64 x8_2 ∧ Aside0 (tenterhooklaw16_QueueFirst.l0 kq t236 t250 x7_2 x8_2 a0_0 l0_1 t246 t247 = some r) ∧ Aside0 (kq ≤ kj2) ∧ Aside0 (Kd.V k60 60 w' w.heap.size (fun k_ => k_ ≠ gb235 ∧ k_ ≠ gb252) (.slice Ao25 t247.length co25) t247) ∧ Aside0 (w'.heap[gb235]? = some (.cells #[.int .i64 a0_0, (.slice A0_1 l0_1.length c0_1)] 24 (0, 0))) ∧ Aside0 (w'.heap[gb252]? = some (.cells #[.int .i64 t246, (.slice Ao25 t247.length co25)] 29 (0, 0))) ∧ Aside0 (Below w.heap.size w w'))
     case atStart => exact ⟨((-1)), (0), (by first | rfl | (simp; done) | (simp [*]; done)), (by first | rfl | (simp; done) | (simp [*]; done)), H', ⟨Nat.le_refl _⟩, ⟨by (with_reducible repeat (first | apply Kd.V_alloc | apply Kd.V_drewN | apply Kd.V_drew)); exact Kd.V_mono (Kd.V_far (p := ⟨gb252, 1, none⟩) (Kd.V_far (p := ⟨gb252, 0, none⟩) (Kd.V_mono HO249.out (fun k_ hk => (⟨hk, hk.2⟩ : _ ∧ k_ ≠ gb252))) (fun _ hk => hk.2) (.int .i64 t246)) (fun _ hk => hk.2) (.slice Ao25 t247.length co25)) (fun _ hk => ⟨hk.1.1, hk.1.2⟩)⟩, ⟨by (with_reducible repeat (first | refine blk_drewN ?_ _ | refine blk_drew ?_ | refine blk_alloc ?_ _)); refine blk_far ?_ NB235_252.out _; (with_reducible repeat (first | refine blk_drewN ?_ _ | refine blk_drew ?_ | refine blk_alloc ?_ _)); refine blk_far ?_ NB235_252.out _; (with_reducible repeat (first | refine blk_drewN ?_ _ | refine blk_drew ?_ | refine blk_alloc ?_ _)); exact BK235.out⟩, ⟨by (with_reducible repeat (first | refine blk_drewN ?_ _ | refine blk_drew ?_ | refine blk_alloc ?_ _)); refine blk_put (cs := #[.int .i64 t246, .slice none 0 0]) ?_ 1 _ rfl; (with_reducible repeat (first | refine blk_drewN ?_ _ | refine blk_drew ?_ | refine blk_alloc ?_ _)); refine blk_put (cs := #[.int .i64 0, .slice none 0 0]) ?_ 0 _ rfl; (with_reducible repeat (first | refine blk_drewN ?_ _ | refine blk_drew ?_ | refine blk_alloc ?_ _)); exact BK252.out⟩, ⟨by repeat (first | (with_reducible first | exact HB.out | apply below_alloc | apply pw_below_drewN | apply below_drew1 | refine below_set ?_ GE235.out | refine below_set ?_ GE252.out) | exact HB.out)⟩⟩
     case round =>
      clear H'
      try clear c1
      try clear c2
      try clear p2
      try clear c3
      try clear c6
      try clear c6b0
      try clear c6b1
      try clear c8
      try clear c10
      try clear c11
      try clear c14
      try clear c17
      try clear c23
      try clear hcz10_0
      try clear hcz10_1
      try clear hcz18_0
      try clear hcz18_1
      try clear hcz24_0
      try clear hcz24_1
      try clear hcz7_0
      try clear hcz7_1
      try clear hfz10_0
      try clear hfz10_1
      try clear hfz18_0
      try clear hfz18_1
      try clear hfz24_0
      try clear hfz24_1
      try clear hfz7_0
      try clear hfz7_1
      try clear p2
      obtain ⟨x7_2, x8_2, rfl, rfl, HA, HK2, HO_253001, BK235, BK252, HB⟩ := hrel
      cases gk with
      | zero => exact absurd HA.out (by simp [tenterhooklaw16_QueueFirst.l0])
      | succ k2 =>
       have H := HA.out
       clear HA
       simp only [tenterhooklaw16_QueueFirst.l0] at H
       by_cases c26 : x8_2 < (l0_1.length : Int)
       ·rw [if_pos c26] at H
        have c26b0 : decide (x8_2 < (l0_1.length : Int)) = true := decide_eq_true c26
        clear c26
        by_cases c27 : 0 ≤ x8_2
        ·rw [if_pos c27] at H
         have c27b0 : decide (0 ≤ x8_2) = true := decide_eq_true c27
         clear c27
         by_cases c28 : ((rd_T34 l0_1 x8_2).f0) = t250
         ·rw [if_pos c28] at H
          have c28b0 : (((rd_T34 l0_1 x8_2).f0) == t250) = true := beq_iff_eq.mpr c28
          have c28b1 : (((rd_T34 l0_1 x8_2).f0) != t250) = false := bne_eq_false_iff_eq.mpr c28
          clear c28
          have H' := Aside0.mk H
          clear H
          have hnb29 := NB235_252.out
          have hnc29 := NB252_235.out
          have hcz30_0 : wr.cell? ⟨gb235, 0, none⟩ = some (.int .i64 a0_0) := (blk_cell BK235.out 0).trans rfl
          have hcz30_1 : wr.cell? ⟨gb235, 1, none⟩ = some (.slice A0_1 l0_1.length c0_1) := (blk_cell BK235.out 1).trans rfl
          have hfz30_0 := blk_frozen BK235.out 0
          have hfz30_1 := blk_frozen BK235.out 1
          have p253 : 0 ≤ (x8_2 : Int) := of_decide_eq_true (by first | (with_reducible assumption) | assumption)
          have q253 : x8_2 < (l0_1.length : Int) := of_decide_eq_true (by first | (with_reducible assumption) | assumption)
          obtain ⟨ad253, e253, hx253_0, hx253_1, hx253_2⟩ := at_T34 HR0_1.out x8_2 p253 q253
          cases e253
          replace hx253_0 := (HB.out.cell (World.block_lt_of_cell? w _ hx253_0)).trans hx253_0
          replace hx253_1 := (HB.out.cell (World.block_lt_of_cell? w _ hx253_1)).trans hx253_1
          replace hx253_2 := (HB.out.cell (World.block_lt_of_cell? w _ hx253_2)).trans hx253_2
          replace p253 := eq_true p253
          replace q253 := eq_true q253
          go_wp2
          go_roundg k2
          case measure => have := HJ2.out; have := HK2.out; omega
          case rel => exact ⟨(x8_2), (wrap64 (x8_2 + 1)), (by first | rfl | (simp; done) | (simp [*]; done)), (by first | rfl | (simp; done) | (simp [*]; done)), H', ⟨by have := HJ2.out; have := HK2.out; omega⟩, ⟨by (with_reducible repeat (first | apply Kd.V_alloc | apply Kd.V_drewN | apply Kd.V_drew)); exact HO_253001.out⟩, ⟨by (with_reducible repeat (first | refine blk_drewN ?_ _ | refine blk_drew ?_ | refine blk_alloc ?_ _)); exact BK235.out⟩, ⟨by (with_reducible repeat (first | refine blk_drewN ?_ _ | refine blk_drew ?_ | refine blk_alloc ?_ _)); exact BK252.out⟩, ⟨by repeat (first | (with_reducible first | exact HB.out | apply below_alloc | apply pw_below_drewN | apply below_drew1 | refine below_set ?_ GE235.out | refine below_set ?_ GE252.out) | exact HB.out)⟩⟩
         ·rw [if_neg c28] at H
          have c28b0 : (((rd_T34 l0_1 x8_2).f0) == t250) = false := beq_eq_false_iff_ne.mpr c28
          have c28b1 : (((rd_T34 l0_1 x8_2).f0) != t250) = true := bne_iff_ne.mpr c28
          have H' := Aside0.mk H
          clear H
          have hnb31 := NB235_252.out
          have hnc31 := NB252_235.out
          have hcz32_0 : wr.cell? ⟨gb235, 0, none⟩ = some (.int .i64 a0_0) := (blk_cell BK235.out 0).trans rfl
          have hcz32_1 : wr.cell? ⟨gb235, 1, none⟩ = some (.slice A0_1 l0_1.length c0_1) := (blk_cell BK235.out 1).trans rfl
          have hfz32_0 := blk_frozen BK235.out 0
          have hfz32_1 := blk_frozen BK235.out 1
          have p253 : 0 ≤ (x8_2 : Int) := of_decide_eq_true (by first | (with_reducible assumption) | assumption)
          have q253 : x8_2 < (l0_1.length : Int) := of_decide_eq_true (by first | (with_reducible assumption) | assumption)
          obtain ⟨ad253, e253, hx253_0, hx253_1, hx253_2⟩ := at_T34 HR0_1.out x8_2 p253 q253
          cases e253
          replace hx253_0 := (HB.out.cell (World.block_lt_of_cell? w _ hx253_0)).trans hx253_0
          replace hx253_1 := (HB.out.cell (World.block_lt_of_cell? w _ hx253_1)).trans hx253_1
          replace hx253_2 := (HB.out.cell (World.block_lt_of_cell? w _ hx253_2)).trans hx253_2
          replace p253 := eq_true p253
          replace q253 := eq_true q253
          go_wp2
          go_roundg k2
          case measure => have := HJ2.out; have := HK2.out; omega
          case rel => exact ⟨(x7_2), (wrap64 (x8_2 + 1)), (by first | rfl | (simp; done) | (simp [*]; done)), (by first | rfl | (simp; done) | (simp [*]; done)), H', ⟨by have := HJ2.out; have := HK2.out; omega⟩, ⟨by (with_reducible repeat (first | apply Kd.V_alloc | apply Kd.V_drewN | apply Kd.V_drew)); exact HO_253001.out⟩, ⟨by (with_reducible repeat (first | refine blk_drewN ?_ _ | refine blk_drew ?_ | refine blk_alloc ?_ _)); exact BK235.out⟩, ⟨by (with_reducible repeat (first | refine blk_drewN ?_ _ | refine blk_drew ?_ | refine blk_alloc ?_ _)); exact BK252.out⟩, ⟨by repeat (first | (with_reducible first | exact HB.out | apply below_alloc | apply pw_below_drewN | apply below_drew1 | refine below_set ?_ GE235.out | refine below_set ?_ GE252.out) | exact HB.out)⟩⟩
        ·rw [if_neg c27] at H
         exact absurd H (by simp)
       ·rw [if_neg c26] at H
        have c26b0 : decide (x8_2 < (l0_1.length : Int)) = false := decide_eq_false c26
        clear c26
        have HC33 := Aside0.mk H
        clear H
        have hnb34 := NB235_252.out
        have hnc34 := NB252_235.out
        have hcz35_0 : wr.cell? ⟨gb235, 0, none⟩ = some (.int .i64 a0_0) := (blk_cell BK235.out 0).trans rfl
        have hcz35_1 : wr.cell? ⟨gb235, 1, none⟩ = some (.slice A0_1 l0_1.length c0_1) := (blk_cell BK235.out 1).trans rfl
        have hfz35_0 := blk_frozen BK235.out 0
        have hfz35_1 := blk_frozen BK235.out 1
        go_upto_region 13 with (fail)
        go_cut [74] (fun v74 wc => ∃ (kq : Nat) (x74_32 : Bool), v74 = .bool x74_32 ∧ Aside0 (tenterhooklaw16_QueueFirst.j2 kq t236 x7_2 x74_32 a0_0 l0_1 t246 t247 = some r) ∧ Aside0 (kq ≤ k2) ∧ Aside0 (Kd.V k60 60 wc w.heap.size (fun k_ => k_ ≠ gb235 ∧ k_ ≠ gb252) (.slice Ao25 t247.length co25) t247) ∧ Aside0 (wc.heap[gb235]? = some (.cells #[.int .i64 a0_0, (.slice A0_1 l0_1.length c0_1)] 24 (0, 0))) ∧ Aside0 (wc.heap[gb252]? = some (.cells #[.int .i64 t246, (.slice Ao25 t247.length co25)] 29 (0, 0))) ∧ Aside0 (Below w.heap.size w wc))
        case first =>
         have H := HC33.out
         clear HC33
         by_cases c36 : x7_2 < 0
         ·rw [if_pos c36] at H
          have c36b0 : decide (x7_2 < 0) = true := decide_eq_true c36
          clear c36
          (first | rw [c36b0] | (simp only [i64_w, i32_w]; rw [c36b0]) | skip)
          have H' := Aside0.mk H
          clear H
          go_wp2
          go_meet
          case rel => exact ⟨_, (true), (by first | rfl | (simp; done) | (simp [*]; done)), H', ⟨by have := HJ2.out; have := HK2.out; first | omega | exact Nat.le_refl _⟩, ⟨by (with_reducible repeat (first | apply Kd.V_alloc | apply Kd.V_drewN | apply Kd.V_drew)); exact HO_253001.out⟩, ⟨by (with_reducible repeat (first | refine blk_drewN ?_ _ | refine blk_drew ?_ | refine blk_alloc ?_ _)); exact BK235.out⟩, ⟨by (with_reducible repeat (first | refine blk_drewN ?_ _ | refine blk_drew ?_ | refine blk_alloc ?_ _)); exact BK252.out⟩, ⟨by repeat (first | (with_reducible first | exact HB.out | apply below_alloc | apply pw_below_drewN | apply below_drew1 | refine below_set ?_ GE235.out | refine below_set ?_ GE252.out) | exact HB.out)⟩⟩
         ·rw [if_neg c36] at H
          have c36b0 : decide (x7_2 < 0) = false := decide_eq_false c36
          clear c36
          (first | rw [c36b0] | (simp only [i64_w, i32_w]; rw [c36b0]) | skip)
          by_cases c37 : (t247.length : Int) = (wrap64 ((l0_1.length : Int) - 1))
          ·rw [if_pos c37] at H
           have c37b0 : ((t247.length : Int) == (wrap64 ((l0_1.length : Int) - 1))) = true := beq_iff_eq.mpr c37
           have c37b1 : ((t247.length : Int) != (wrap64 ((l0_1.length : Int) - 1))) = false := bne_eq_false_iff_eq.mpr c37
           clear c37
           have H' := Aside0.mk H
           clear H
           have hnb38 := NB252_235.out
           have hnc38 := NB235_252.out
           have hcz39_0 : wr.cell? ⟨gb252, 0, none⟩ = some (.int .i64 t246) := (blk_cell BK252.out 0).trans rfl
           have hcz39_1 : wr.cell? ⟨gb252, 1, none⟩ = some (.slice Ao25 t247.length co25) := (blk_cell BK252.out 1).trans rfl
           have hfz39_0 := blk_frozen BK252.out 0
           have hfz39_1 := blk_frozen BK252.out 1
           have hcz40_0 : wr.cell? ⟨gb235, 0, none⟩ = some (.int .i64 a0_0) := (blk_cell BK235.out 0).trans rfl
           have hcz40_1 : wr.cell? ⟨gb235, 1, none⟩ = some (.slice A0_1 l0_1.length c0_1) := (blk_cell BK235.out 1).trans rfl
           have hfz40_0 := blk_frozen BK235.out 0
           have hfz40_1 := blk_frozen BK235.out 1
           go_wp2
           go_meet
           case rel => exact ⟨_, ((t246 != a0_0)), (by first | rfl | (simp; done) | (simp [*]; done)), H', ⟨by have := HJ2.out; have := HK2.out; first | omega | exact Nat.le_refl _⟩, ⟨by (with_reducible repeat (first | apply Kd.V_alloc | apply Kd.V_drewN | apply Kd.V_drew)); exact HO_253001.out⟩, ⟨by (with_reducible repeat (first | refine blk_drewN ?_ _ | refine blk_drew ?_ | refine blk_alloc ?_ _)); exact BK235.out⟩, ⟨by (with_reducible repeat (first | refine blk_drewN ?_ _ | refine blk_drew ?_ | refine blk_alloc ?_ _)); exact BK252.out⟩, ⟨by repeat (first | (with_reducible first | exact HB.out | apply below_alloc | apply pw_below_drewN | apply below_drew1 | refine below_set ?_ GE235.out | refine below_set ?_ GE252.out) | exact HB.out)⟩⟩
          ·rw [if_neg c37] at H
           have c37b0 : ((t247.length : Int) == (wrap64 ((l0_1.length : Int) - 1))) = false := beq_eq_false_iff_ne.mpr c37
           have c37b1 : ((t247.length : Int) != (wrap64 ((l0_1.length : Int) - 1))) = true := bne_iff_ne.mpr c37
           have H' := Aside0.mk H
           clear H
           have hnb41 := NB252_235.out
           have hnc41 := NB235_252.out
           have hcz42_0 : wr.cell? ⟨gb252, 0, none⟩ = some (.int .i64 t246) := (blk_cell BK252.out 0).trans rfl
           have hcz42_1 : wr.cell? ⟨gb252, 1, none⟩ = some (.slice Ao25 t247.length co25) := (blk_cell BK252.out 1).trans rfl
           have hfz42_0 := blk_frozen BK252.out 0
           have hfz42_1 := blk_frozen BK252.out 1
           have hcz43_0 : wr.cell? ⟨gb235, 0, none⟩ = some (.int .i64 a0_0) := (blk_cell BK235.out 0).trans rfl
           have hcz43_1 : wr.cell? ⟨gb235, 1, none⟩ = some (.slice A0_1 l0_1.length c0_1) := (blk_cell BK235.out 1).trans rfl
           have hfz43_0 := blk_frozen BK235.out 0
           have hfz43_1 := blk_frozen BK235.out 1
           go_wp2
           go_meet
           case rel => exact ⟨_, (true), (by first | rfl | (simp; done) | (simp [*]; done)), H', ⟨by have := HJ2.out; have := HK2.out; first | omega | exact Nat.le_refl _⟩, ⟨by (with_reducible repeat (first | apply Kd.V_alloc | apply Kd.V_drewN | apply Kd.V_drew)); exact HO_253001.out⟩, ⟨by (with_reducible repeat (first | refine blk_drewN ?_ _ | refine blk_drew ?_ | refine blk_alloc ?_ _)); exact BK235.out⟩, ⟨by (with_reducible repeat (first | refine blk_drewN ?_ _ | refine blk_drew ?_ | refine blk_alloc ?_ _)); exact BK252.out⟩, ⟨by repeat (first | (with_reducible first | exact HB.out | apply below_alloc | apply pw_below_drewN | apply below_drew1 | refine below_set ?_ GE235.out | refine below_set ?_ GE252.out) | exact HB.out)⟩⟩
        case rest =>
         clear HC33
         try clear c1
         try clear c2
         try clear p2
         try clear q2
         try clear hx2
         try clear c3
         try clear c4
         try clear c6
         try clear c6b0
         try clear c6b1
         try clear p6
         try clear c8
         try clear c10
         try clear c11
         try clear c14
         try clear c17
         try clear c23
         try clear p25
         try clear q25
         try clear hx25
         try clear c26
         try clear c26b0
         try clear c27
         try clear c27b0
         try clear c28
         try clear c28b0
         try clear c28b1
         try clear c29
         try clear c31
         try clear c34
         try clear c36
         try clear c36b0
         try clear c37
         try clear c37b0
         try clear c37b1
         try clear c38
         try clear c41
         try clear hcz10_0
         try clear hcz10_1
         try clear hcz18_0
         try clear hcz18_1
         try clear hcz24_0
         try clear hcz24_1
         try clear hcz30_0
         try clear hcz30_1
         try clear hcz32_0
         try clear hcz32_1
         try clear hcz35_0
         try clear hcz35_1
         try clear hcz39_0
         try clear hcz39_1
         try clear hcz40_0
         try clear hcz40_1
         try clear hcz42_0
         try clear hcz42_1
         try clear hcz43_0
         try clear hcz43_1
         try clear hcz7_0
         try clear hcz7_1
         try clear hfz10_0
         try clear hfz10_1
         try clear hfz18_0
         try clear hfz18_1
         try clear hfz24_0
         try clear hfz24_1
         try clear hfz30_0
         try clear hfz30_1
         try clear hfz32_0
         try clear hfz32_1
         try clear hfz35_0
         try clear hfz35_1
         try clear hfz39_0
         try clear hfz39_1
         try clear hfz40_0
         try clear hfz40_1
         try clear hfz42_0
         try clear hfz42_1
         try clear hfz43_0
         try clear hfz43_1
         try clear hfz7_0
         try clear hfz7_1
         try clear hx253_0
         try clear hx253_1
         try clear hx253_2
         try clear p2
         try clear p253
         try clear q253
         obtain ⟨kq, x74_32, rfl, HA, HJ32, HO_253001, BK235, BK252, HB⟩ := hcut
         cases kq with
         | zero => exact absurd HA.out (by simp [tenterhooklaw16_QueueFirst.j2])
         | succ kj32 =>
          have H := HA.out
          clear HA
          simp only [tenterhooklaw16_QueueFirst.j2] at H
          by_cases c44 : x74_32 = true
          ·subst c44
           have H1 : (some false) = some r := by rw [if_pos rfl] at H; exact H
           clear H
           have H := H1
           exact absurd ((Option.some.inj H).trans hr) (by decide)
          ·replace c44 := Bool.eq_false_iff.mpr c44
           subst c44
           have H1 : (tenterhooklaw16_QueueFirst.l1 kj32 t236 x7_2 0 a0_0 l0_1 t246 t247) = some r := by rw [if_neg (show ¬ (false = true) by decide)] at H; exact H
           clear H
           have H := H1
           clear H1
           have H' := Aside0.mk H
           clear H
           go_wp2
           go_loopg [9] kj32 (fun kq v9 w' => ∃ (x9_4 : Int), v9 = .int .i64 x9_4 ∧ Aside0 (tenterhooklaw16_QueueFirst.l1 kq t236 x7_2 x9_4 a0_0 l0_1 t246 t247 = some r) ∧ Aside0 (kq ≤ kj32) ∧ Aside0 (Kd.V k60 60 w' w.heap.size (fun k_ => k_ ≠ gb235 ∧ k_ ≠ gb252) (.slice Ao25 t247.length co25) t247) ∧ Aside0 (w'.heap[gb235]? = some (.cells #[.int .i64 a0_0, (.slice A0_1 l0_1.length c0_1)] 24 (0, 0))) ∧ Aside0 (w'.heap[gb252]? = some (.cells #[.int .i64 t246, (.slice Ao25 t247.length co25)] 29 (0, 0))) ∧ Aside0 (Below w.heap.size w w'))
           case atStart => exact ⟨(0), (by first | rfl | (simp; done) | (simp [*]; done)), H', ⟨Nat.le_refl _⟩, ⟨by (with_reducible repeat (first | apply Kd.V_alloc | apply Kd.V_drewN | apply Kd.V_drew)); exact HO_253001.out⟩, ⟨by (with_reducible repeat (first | refine blk_drewN ?_ _ | refine blk_drew ?_ | refine blk_alloc ?_ _)); exact BK235.out⟩, ⟨by (with_reducible repeat (first | refine blk_drewN ?_ _ | refine blk_drew ?_ | refine blk_alloc ?_ _)); exact BK252.out⟩, ⟨by repeat (first | (with_reducible first | exact HB.out | apply below_alloc | apply pw_below_drewN | apply below_drew1 | refine below_set ?_ GE235.out | refine below_set ?_ GE252.out) | exact HB.out)⟩⟩
           case round =>
            clear H'
            try clear c1
            try clear c2
            try clear p2
            try clear q2
            try clear hx2
            try clear c3
            try clear c4
            try clear c6
            try clear c6b0
            try clear c6b1
            try clear p6
            try clear c8
            try clear c10
            try clear c11
            try clear c14
            try clear c17
            try clear c23
            try clear p25
            try clear q25
            try clear hx25
            try clear c26
            try clear c26b0
            try clear c27
            try clear c27b0
            try clear c28
            try clear c28b0
            try clear c28b1
            try clear c29
            try clear c31
            try clear c34
            try clear c36
            try clear c36b0
            try clear c37
            try clear c37b0
            try clear c37b1
            try clear c38
            try clear c41
            try clear c44
            try clear hcz10_0
            try clear hcz10_1
            try clear hcz18_0
            try clear hcz18_1
            try clear hcz24_0
            try clear hcz24_1
            try clear hcz30_0
            try clear hcz30_1
            try clear hcz32_0
            try clear hcz32_1
            try clear hcz35_0
            try clear hcz35_1
            try clear hcz39_0
            try clear hcz39_1
            try clear hcz40_0
            try clear hcz40_1
            try clear hcz42_0
            try clear hcz42_1
            try clear hcz43_0
            try clear hcz43_1
            try clear hcz7_0
            try clear hcz7_1
            try clear hfz10_0
            try clear hfz10_1
            try clear hfz18_0
            try clear hfz18_1
            try clear hfz24_0
            try clear hfz24_1
            try clear hfz30_0
            try clear hfz30_1
            try clear hfz32_0
            try clear hfz32_1
            try clear hfz35_0
            try clear hfz35_1
            try clear hfz39_0
            try clear hfz39_1
            try clear hfz40_0
            try clear hfz40_1
            try clear hfz42_0
            try clear hfz42_1
            try clear hfz43_0
            try clear hfz43_1
            try clear hfz7_0
            try clear hfz7_1
            try clear hx253_0
            try clear hx253_1
            try clear hx253_2
            try clear p2
            try clear p25
            try clear p253
            try clear p6
            try clear q2
            try clear q25
            try clear q253
            obtain ⟨x9_4, rfl, HA, HK4, HO_253001, BK235, BK252, HB⟩ := hrel
            cases gk with
            | zero => exact absurd HA.out (by simp [tenterhooklaw16_QueueFirst.l1])
            | succ k4 =>
             have H := HA.out
             clear HA
             simp only [tenterhooklaw16_QueueFirst.l1] at H
             by_cases c45 : x9_4 < (l0_1.length : Int)
             ·rw [if_pos c45] at H
              have c45b0 : decide (x9_4 < (l0_1.length : Int)) = true := decide_eq_true c45
              clear c45
              by_cases c46 : 0 ≤ x9_4
              ·rw [if_pos c46] at H
               have c46b0 : decide (0 ≤ x9_4) = true := decide_eq_true c46
               clear c46
               by_cases c47 : 0 ≤ x7_2
               ·rw [if_pos c47] at H
                have c47b0 : decide (0 ≤ x7_2) = true := decide_eq_true c47
                clear c47
                by_cases c48 : x7_2 < (l0_1.length : Int)
                ·rw [if_pos c48] at H
                 have c48b0 : decide (x7_2 < (l0_1.length : Int)) = true := decide_eq_true c48
                 clear c48
                 by_cases c49 : ((rd_T34 l0_1 x9_4).f1) > ((rd_T34 l0_1 x7_2).f1)
                 ·rw [if_pos c49] at H
                  exact absurd ((Option.some.inj H).trans hr) (by decide)
                 ·rw [if_neg c49] at H
                  have c49b0 : decide (((rd_T34 l0_1 x7_2).f1) < ((rd_T34 l0_1 x9_4).f1)) = false := decide_eq_false c49
                  clear c49
                  by_cases c58 : ((rd_T34 l0_1 x9_4).f1) = ((rd_T34 l0_1 x7_2).f1)
                  ·rw [if_pos c58] at H
                   have c58b0 : (((rd_T34 l0_1 x9_4).f1) == ((rd_T34 l0_1 x7_2).f1)) = true := beq_iff_eq.mpr c58
                   have c58b1 : (((rd_T34 l0_1 x9_4).f1) != ((rd_T34 l0_1 x7_2).f1)) = false := bne_eq_false_iff_eq.mpr c58
                   clear c58
                   by_cases c59 : ((rd_T34 l0_1 x9_4).f2) < ((rd_T34 l0_1 x7_2).f2)
                   ·rw [if_pos c59] at H
                    exact absurd ((Option.some.inj H).trans hr) (by decide)
                   ·rw [if_neg c59] at H
                    have c59b0 : decide (((rd_T34 l0_1 x9_4).f2) < ((rd_T34 l0_1 x7_2).f2)) = false := decide_eq_false c59
                    clear c59
                    have H' := Aside0.mk H
                    clear H
                    have hnb68 := NB235_252.out
                    have hnc68 := NB252_235.out
                    have hcz69_0 : wr.cell? ⟨gb235, 0, none⟩ = some (.int .i64 a0_0) := (blk_cell BK235.out 0).trans rfl
                    have hcz69_1 : wr.cell? ⟨gb235, 1, none⟩ = some (.slice A0_1 l0_1.length c0_1) := (blk_cell BK235.out 1).trans rfl
                    have hfz69_0 := blk_frozen BK235.out 0
                    have hfz69_1 := blk_frozen BK235.out 1
                    have p254 : 0 ≤ (x9_4 : Int) := of_decide_eq_true (by first | (with_reducible assumption) | assumption)
                    have q254 : x9_4 < (l0_1.length : Int) := of_decide_eq_true (by first | (with_reducible assumption) | assumption)
                    obtain ⟨ad254, e254, hx254_0, hx254_1, hx254_2⟩ := at_T34 HR0_1.out x9_4 p254 q254
                    cases e254
                    replace hx254_0 := (HB.out.cell (World.block_lt_of_cell? w _ hx254_0)).trans hx254_0
                    replace hx254_1 := (HB.out.cell (World.block_lt_of_cell? w _ hx254_1)).trans hx254_1
                    replace hx254_2 := (HB.out.cell (World.block_lt_of_cell? w _ hx254_2)).trans hx254_2
                    replace p254 := eq_true p254
                    replace q254 := eq_true q254
                    try go_wp2_with (first | ((with_reducible refine gate_dst (N := 10) rfl ?_); (try (refine gate_guard (by rfl) ?_; dsimp only)); refine box_event ?hg (N := 10) ?hd (cs := #[.int .i64 0, .int .i64 0, .int .i64 0]) (t := 34) ?hr ?_; (case hd => rfl); (case hg => rfl); (case hr => first | (go_simp; done) | (go_simp; rfl)); intro gb255 hg w70 hbox hb; have n0_ := Aside0.mk (Kd.V_below (Kd.V_elderB (by (with_reducible repeat (first | apply Kd.V_alloc | apply Kd.V_drewN | apply Kd.V_drew)); exact HO_253001.out) gb255 (Nat.le_of_eq hg.symm)) hb); have n1_ := Aside0.mk (blk_below (g := gb235) (o := .cells #[.int .i64 a0_0, .slice (some ad254) l0_1.length c0_1] 24 (0, 0)) (by (with_reducible repeat (first | refine blk_drewN ?_ _ | refine blk_drew ?_ | refine blk_alloc ?_ _)); exact BK235.out) hb); have n2_ := Aside0.mk (blk_below (g := gb252) (o := .cells #[.int .i64 t246, .slice Ao25 t247.length co25] 29 (0, 0)) (by (with_reducible repeat (first | refine blk_drewN ?_ _ | refine blk_drew ?_ | refine blk_alloc ?_ _)); exact BK252.out) hb); have n3_ := Aside0.mk (below_step (by repeat (first | (with_reducible first | exact HB.out | apply below_alloc | apply pw_below_drewN | apply below_drew1 | refine below_set ?_ GE235.out | refine below_set ?_ GE252.out) | exact HB.out)) hb); have n4_ := Aside0.mk (hbox); have n5_ := Aside0.mk ((by rw [hg]; exact (below_size (by repeat (first | (with_reducible first | exact HB.out | apply below_alloc | apply pw_below_drewN | apply below_drew1 | refine below_set ?_ GE235.out | refine below_set ?_ GE252.out) | exact HB.out))) : w.heap.size ≤ gb255)); have n6_ := Aside0.mk ((by rw [hg]; exact (below_size (by repeat (first | (with_reducible first | exact HB.out | apply below_alloc | apply pw_below_drewN | apply below_drew1 | refine below_set ?_ GE235.out | refine below_set ?_ GE252.out) | exact HB.out))) : w.heap.size ≤ gb255)); have n7_ := Aside0.mk ((by rw [hg]; exact Nat.ne_of_lt (blk_lt (g := gb235) (o := .cells #[.int .i64 a0_0, .slice (some ad254) l0_1.length c0_1] 24 (0, 0)) (by (with_reducible repeat (first | refine blk_drewN ?_ _ | refine blk_drew ?_ | refine blk_alloc ?_ _)); exact BK235.out)) : gb235 ≠ gb255)); have n8_ := Aside0.mk ((by rw [hg]; exact Nat.ne_of_gt (blk_lt (g := gb235) (o := .cells #[.int .i64 a0_0, .slice (some ad254) l0_1.length c0_1] 24 (0, 0)) (by (with_reducible repeat (first | refine blk_drewN ?_ _ | refine blk_drew ?_ | refine blk_alloc ?_ _)); exact BK235.out)) : gb255 ≠ gb235)); have n9_ := Aside0.mk ((by rw [hg]; exact Nat.ne_of_lt (blk_lt (g := gb252) (o := .cells #[.int .i64 t246, .slice Ao25 t247.length co25] 29 (0, 0)) (by (with_reducible repeat (first | refine blk_drewN ?_ _ | refine blk_drew ?_ | refine blk_alloc ?_ _)); exact BK252.out)) : gb252 ≠ gb255)); have n10_ := Aside0.mk ((by rw [hg]; exact Nat.ne_of_gt (blk_lt (g := gb252) (o := .cells #[.int .i64 t246, .slice Ao25 t247.length co25] 29 (0, 0)) (by (with_reducible repeat (first | refine blk_drewN ?_ _ | refine blk_drew ?_ | refine blk_alloc ?_ _)); exact BK252.out)) : gb255 ≠ gb252)); clear HO_253001; clear BK235; clear BK252; clear HB; have HO_253001 := n0_; have BK235 := n1_; have BK252 := n2_; have HB := n3_; have BK255 := n4_; have GW255 := n5_; have GE255 := n6_; have NB235_255 := n7_; have NB255_235 := n8_; have NB252_255 := n9_; have NB255_252 := n10_; clear n0_ n1_ n2_ n3_ n4_ n5_ n6_ n7_ n8_ n9_ n10_; clear hb hbox hg; have hnb71 := NB255_235.out; have hnc71 := NB235_255.out; have hnb72 := NB255_252.out; have hnc72 := NB252_255.out; have hcz73_0 : w70.cell? ⟨gb255, 0, none⟩ = some (.int .i64 0) := (blk_cell BK255.out 0).trans rfl; have hcz73_1 : w70.cell? ⟨gb255, 1, none⟩ = some (.int .i64 0) := (blk_cell BK255.out 1).trans rfl; have hcz73_2 : w70.cell? ⟨gb255, 2, none⟩ = some (.int .i64 0) := (blk_cell BK255.out 2).trans rfl; have hfz73_0 := blk_frozen BK255.out 0; have hfz73_1 := blk_frozen BK255.out 1; have hfz73_2 := blk_frozen BK255.out 2))
                    have n0_ : Aside0 (Kd.V k60 60 (((w70.setCell ⟨gb255, 0, none⟩ (.int .i64 ((rd_T34 l0_1 x9_4).f0))).setCell ⟨gb255, 1, none⟩ (.int .i64 ((rd_T34 l0_1 x9_4).f1))).setCell ⟨gb255, 2, none⟩ (.int .i64 ((rd_T34 l0_1 x9_4).f2))) w.heap.size (fun k_ => k_ ≠ gb235 ∧ k_ ≠ gb252 ∧ k_ ≠ gb255) (.slice Ao25 t247.length co25) t247) := ⟨by (with_reducible repeat (first | apply Kd.V_alloc | apply Kd.V_drewN | apply Kd.V_drew)); exact Kd.V_mono (Kd.V_far (p := ⟨gb255, 2, none⟩) (Kd.V_far (p := ⟨gb255, 1, none⟩) (Kd.V_far (p := ⟨gb255, 0, none⟩) (Kd.V_mono HO_253001.out (fun k_ hk => (⟨hk, hk.2⟩ : _ ∧ k_ ≠ gb255))) (fun _ hk => hk.2) (.int .i64 ((rd_T34 l0_1 x9_4).f0))) (fun _ hk => hk.2) (.int .i64 ((rd_T34 l0_1 x9_4).f1))) (fun _ hk => hk.2) (.int .i64 ((rd_T34 l0_1 x9_4).f2))) (fun _ hk => ⟨hk.1.1.1, ⟨hk.1.1.2, hk.1.2⟩⟩)⟩
                    have n1_ : Aside0 ((((w70.setCell ⟨gb255, 0, none⟩ (.int .i64 ((rd_T34 l0_1 x9_4).f0))).setCell ⟨gb255, 1, none⟩ (.int .i64 ((rd_T34 l0_1 x9_4).f1))).setCell ⟨gb255, 2, none⟩ (.int .i64 ((rd_T34 l0_1 x9_4).f2))).heap[gb235]? = some (.cells #[.int .i64 a0_0, .slice (some ad254) l0_1.length c0_1] 24 (0, 0))) := ⟨by (with_reducible repeat (first | refine blk_drewN ?_ _ | refine blk_drew ?_ | refine blk_alloc ?_ _)); refine blk_far ?_ NB235_255.out _; (with_reducible repeat (first | refine blk_drewN ?_ _ | refine blk_drew ?_ | refine blk_alloc ?_ _)); refine blk_far ?_ NB235_255.out _; (with_reducible repeat (first | refine blk_drewN ?_ _ | refine blk_drew ?_ | refine blk_alloc ?_ _)); refine blk_far ?_ NB235_255.out _; (with_reducible repeat (first | refine blk_drewN ?_ _ | refine blk_drew ?_ | refine blk_alloc ?_ _)); exact BK235.out⟩
                    have n2_ : Aside0 ((((w70.setCell ⟨gb255, 0, none⟩ (.int .i64 ((rd_T34 l0_1 x9_4).f0))).setCell ⟨gb255, 1, none⟩ (.int .i64 ((rd_T34 l0_1 x9_4).f1))).setCell ⟨gb255, 2, none⟩ (.int .i64 ((rd_T34 l0_1 x9_4).f2))).heap[gb252]? = some (.cells #[.int .i64 t246, .slice Ao25 t247.length co25] 29 (0, 0))) := ⟨by (with_reducible repeat (first | refine blk_drewN ?_ _ | refine blk_drew ?_ | refine blk_alloc ?_ _)); refine blk_far ?_ NB252_255.out _; (with_reducible repeat (first | refine blk_drewN ?_ _ | refine blk_drew ?_ | refine blk_alloc ?_ _)); refine blk_far ?_ NB252_255.out _; (with_reducible repeat (first | refine blk_drewN ?_ _ | refine blk_drew ?_ | refine blk_alloc ?_ _)); refine blk_far ?_ NB252_255.out _; (with_reducible repeat (first | refine blk_drewN ?_ _ | refine blk_drew ?_ | refine blk_alloc ?_ _)); exact BK252.out⟩
                    have n3_ : Aside0 ((((w70.setCell ⟨gb255, 0, none⟩ (.int .i64 ((rd_T34 l0_1 x9_4).f0))).setCell ⟨gb255, 1, none⟩ (.int .i64 ((rd_T34 l0_1 x9_4).f1))).setCell ⟨gb255, 2, none⟩ (.int .i64 ((rd_T34 l0_1 x9_4).f2))).heap[gb255]? = some (.cells #[.int .i64 ((rd_T34 l0_1 x9_4).f0), .int .i64 ((rd_T34 l0_1 x9_4).f1), .int .i64 ((rd_T34 l0_1 x9_4).f2)] 34 (0, 0))) := ⟨by (with_reducible repeat (first | refine blk_drewN ?_ _ | refine blk_drew ?_ | refine blk_alloc ?_ _)); refine blk_put (cs := #[.int .i64 ((rd_T34 l0_1 x9_4).f0), .int .i64 ((rd_T34 l0_1 x9_4).f1), .int .i64 0]) ?_ 2 _ rfl; (with_reducible repeat (first | refine blk_drewN ?_ _ | refine blk_drew ?_ | refine blk_alloc ?_ _)); refine blk_put (cs := #[.int .i64 ((rd_T34 l0_1 x9_4).f0), .int .i64 0, .int .i64 0]) ?_ 1 _ rfl; (with_reducible repeat (first | refine blk_drewN ?_ _ | refine blk_drew ?_ | refine blk_alloc ?_ _)); refine blk_put (cs := #[.int .i64 0, .int .i64 0, .int .i64 0]) ?_ 0 _ rfl; (with_reducible repeat (first | refine blk_drewN ?_ _ | refine blk_drew ?_ | refine blk_alloc ?_ _)); exact BK255.out⟩
                    have n4_ : Aside0 (Below w.heap.size w (((w70.setCell ⟨gb255, 0, none⟩ (.int .i64 ((rd_T34 l0_1 x9_4).f0))).setCell ⟨gb255, 1, none⟩ (.int .i64 ((rd_T34 l0_1 x9_4).f1))).setCell ⟨gb255, 2, none⟩ (.int .i64 ((rd_T34 l0_1 x9_4).f2)))) := ⟨by repeat (first | (with_reducible first | exact HB.out | apply below_alloc | apply pw_below_drewN | apply below_drew1 | refine below_set ?_ GE235.out | refine below_set ?_ GE252.out | refine below_set ?_ GE255.out) | exact HB.out)⟩
                    (try clear HO_253001)
                    (try clear BK235)
                    (try clear BK252)
                    (try clear BK255)
                    (try clear HB)
                    generalize (((w70.setCell ⟨gb255, 0, none⟩ (.int .i64 ((rd_T34 l0_1 x9_4).f0))).setCell ⟨gb255, 1, none⟩ (.int .i64 ((rd_T34 l0_1 x9_4).f1))).setCell ⟨gb255, 2, none⟩ (.int .i64 ((rd_T34 l0_1 x9_4).f2))) = w74 at n0_ n1_ n2_ n3_ n4_ ⊢
                    have HO_253001 := n0_
                    have BK235 := n1_
                    have BK252 := n2_
                    have BK255 := n3_
                    have HB := n4_
                    clear n0_ n1_ n2_ n3_ n4_
                    have n0_ := Aside0.mk (Kd.V_drew HO_253001.out)
                    have n1_ := Aside0.mk (blk_drew BK235.out)
                    have n2_ := Aside0.mk (blk_drew BK252.out)
                    have n3_ := Aside0.mk (blk_drew BK255.out)
                    have n4_ := Aside0.mk (below_drew1 HB.out)
                    clear HO_253001
                    clear BK235
                    clear BK252
                    clear BK255
                    clear HB
                    have HO_253001 := n0_
                    have BK235 := n1_
                    have BK252 := n2_
                    have BK255 := n3_
                    have HB := n4_
                    clear n0_ n1_ n2_ n3_ n4_
                    have p256 : 0 ≤ (x7_2 : Int) := of_decide_eq_true (by first | (with_reducible assumption) | assumption)
                    have q256 : x7_2 < (l0_1.length : Int) := of_decide_eq_true (by first | (with_reducible assumption) | assumption)
                    obtain ⟨ad256, e256, hx256_0, hx256_1, hx256_2⟩ := at_T34 HR0_1.out x7_2 p256 q256
                    have hw256_2 := hx256_2
                    have hw256_1 := hx256_1
                    have hw256_0 := hx256_0
                    obtain rfl : ad254 = ad256 := (by injection e256)
                    replace hx256_0 := (HB.out.cell (World.block_lt_of_cell? w _ hx256_0)).trans hx256_0
                    replace hx256_1 := (HB.out.cell (World.block_lt_of_cell? w _ hx256_1)).trans hx256_1
                    replace hx256_2 := (HB.out.cell (World.block_lt_of_cell? w _ hx256_2)).trans hx256_2
                    replace p256 := eq_true p256
                    replace q256 := eq_true q256
                    have p257 : 0 ≤ (x7_2 : Int) := of_decide_eq_true (by first | (with_reducible assumption) | assumption)
                    have q257 : x7_2 < (l0_1.length : Int) := of_decide_eq_true (by first | (with_reducible assumption) | assumption)
                    obtain ⟨ad257, e257, hx257_0, hx257_1, hx257_2⟩ := at_T34 HR0_1.out x7_2 p257 q257
                    have hw257_2 := hx257_2
                    have hw257_1 := hx257_1
                    have hw257_0 := hx257_0
                    obtain rfl : ad254 = ad257 := (by injection e257)
                    replace hx257_0 := (HB.out.cell (World.block_lt_of_cell? w _ hx257_0)).trans hx257_0
                    replace hx257_1 := (HB.out.cell (World.block_lt_of_cell? w _ hx257_1)).trans hx257_1
                    replace hx257_2 := (HB.out.cell (World.block_lt_of_cell? w _ hx257_2)).trans hx257_2
                    replace p257 := eq_true p257
                    replace q257 := eq_true q257
                    have p258 : 0 ≤ (x7_2 : Int) := of_decide_eq_true (by first | (with_reducible assumption) | assumption)
                    have q258 : x7_2 < (l0_1.length : Int) := of_decide_eq_true (by first | (with_reducible assumption) | assumption)
                    obtain ⟨ad258, e258, hx258_0, hx258_1, hx258_2⟩ := at_T34 HR0_1.out x7_2 p258 q258
                    have hw258_2 := hx258_2
                    have hw258_1 := hx258_1
                    have hw258_0 := hx258_0
                    obtain rfl : ad254 = ad258 := (by injection e258)
                    replace hx258_0 := (HB.out.cell (World.block_lt_of_cell? w _ hx258_0)).trans hx258_0
                    replace hx258_1 := (HB.out.cell (World.block_lt_of_cell? w _ hx258_1)).trans hx258_1
                    replace hx258_2 := (HB.out.cell (World.block_lt_of_cell? w _ hx258_2)).trans hx258_2
                    replace p258 := eq_true p258
                    replace q258 := eq_true q258
                    refine start_ (n := 31) (S := fun w' => w'.cell? ⟨gb255, 0, none⟩ = some (.int .i64 ((rd_T34 l0_1 x9_4).f0)) ∧ w'.cell? ⟨gb255, 1, none⟩ = some (.int .i64 ((rd_T34 l0_1 x9_4).f1)) ∧ w'.cell? ⟨gb255, 2, none⟩ = some (.int .i64 ((rd_T34 l0_1 x9_4).f2)) ∧ w'.cell? ⟨gb235, 0, none⟩ = some (.int .i64 a0_0) ∧ w'.cell? ⟨gb235, 1, none⟩ = some (.slice (some ad254) l0_1.length c0_1) ∧ w'.cell? (ad254.add ((x7_2).toNat * 3)) = some (.int .i64 ((rd_T34 l0_1 x7_2).f0)) ∧ w'.cell? ⟨(ad254.add ((x7_2).toNat * 3)).block, (ad254.add ((x7_2).toNat * 3)).off + 1, none⟩ = some (.int .i64 ((rd_T34 l0_1 x7_2).f1)) ∧ w'.cell? ⟨(ad254.add ((x7_2).toNat * 3)).block, (ad254.add ((x7_2).toNat * 3)).off + 2, none⟩ = some (.int .i64 ((rd_T34 l0_1 x7_2).f2)) ∧ w'.cell? (ad254.add ((x7_2).toNat * 3)) = some (.int .i64 ((rd_T34 l0_1 x7_2).f0)) ∧ w'.cell? ⟨(ad254.add ((x7_2).toNat * 3)).block, (ad254.add ((x7_2).toNat * 3)).off + 1, none⟩ = some (.int .i64 ((rd_T34 l0_1 x7_2).f1)) ∧ w'.cell? ⟨(ad254.add ((x7_2).toNat * 3)).block, (ad254.add ((x7_2).toNat * 3)).off + 2, none⟩ = some (.int .i64 ((rd_T34 l0_1 x7_2).f2)) ∧ w'.cell? (ad254.add ((x7_2).toNat * 3)) = some (.int .i64 ((rd_T34 l0_1 x7_2).f0)) ∧ w'.cell? ⟨(ad254.add ((x7_2).toNat * 3)).block, (ad254.add ((x7_2).toNat * 3)).off + 1, none⟩ = some (.int .i64 ((rd_T34 l0_1 x7_2).f1)) ∧ w'.cell? ⟨(ad254.add ((x7_2).toNat * 3)).block, (ad254.add ((x7_2).toNat * 3)).off + 2, none⟩ = some (.int .i64 ((rd_T34 l0_1 x7_2).f2))) (ds := []) #[false, false, false, false, false, false, false, false, false, false, false, false, false, false, false, false, false, false, false, false, false, false, false, false, false, false, false, false, false, false, false] (by kernel_rfl) rfl rfl ⟨(blk_cell BK255.out 0).trans rfl, (blk_cell BK255.out 1).trans rfl, (blk_cell BK255.out 2).trans rfl, (blk_cell BK235.out 0).trans rfl, (blk_cell BK235.out 1).trans rfl, ((HB.out.cell (World.block_lt_of_cell? w _ hw256_0)).trans hw256_0), ((HB.out.cell (World.block_lt_of_cell? w _ hw256_1)).trans hw256_1), ((HB.out.cell (World.block_lt_of_cell? w _ hw256_2)).trans hw256_2), ((HB.out.cell (World.block_lt_of_cell? w _ hw257_0)).trans hw257_0), ((HB.out.cell (World.block_lt_of_cell? w _ hw257_1)).trans hw257_1), ((HB.out.cell (World.block_lt_of_cell? w _ hw257_2)).trans hw257_2), ((HB.out.cell (World.block_lt_of_cell? w _ hw258_0)).trans hw258_0), ((HB.out.cell (World.block_lt_of_cell? w _ hw258_1)).trans hw258_1), ((HB.out.cell (World.block_lt_of_cell? w _ hw258_2)).trans hw258_2)⟩ (fun hHeld => ?_); refine with_tabW tenterhooklaw16_QueueFirst.tab19 tenterhooklaw16_QueueFirst.bits19 (fun HT_ HW_ => ?_)
                    generalize w74.drew = w75 at HO_253001 BK235 BK252 BK255 HB hx256_0 hx256_1 hx256_2 hx257_0 hx257_1 hx257_2 hx258_0 hx258_1 hx258_2 hHeld ⊢
                    refine pure_ (i := 0) (N := some 87) (v := ?_) (a' := ?_) #[true, false, false, false, false, false, false, false, false, false, false, false, false, false, false, false, false, false, false, false, false, false, false, false, false, false, false, false, false, false, false] rfl rfl (any_of HT_.out (by kernel_rfl)) (fun _ _ _ h => h) (Or.inl ⟨by rfl, ?_⟩) ?_ ?_
                    rotate_left
                    ·intro w'
                     go_simp
                     with_reducible rfl
                    rotate_left
                    ·simp only [Act.put, List.setIfInBounds_toArray, List.set_cons_zero, List.set_cons_succ, i64_w, i32_w]
                     rfl
                    refine pure_ (i := 2) (N := some 89) (v := ?_) (a' := ?_) #[true, false, true, false, false, false, false, false, false, false, false, false, false, false, false, false, false, false, false, false, false, false, false, false, false, false, false, false, false, false, false] rfl rfl (any_of HT_.out (by kernel_rfl)) (fun _ _ _ h => h) (Or.inl ⟨by rfl, ?_⟩) ?_ ?_
                    rotate_left
                    ·intro w'
                     go_simp
                     with_reducible rfl
                    rotate_left
                    ·simp only [Act.put, List.setIfInBounds_toArray, List.set_cons_zero, List.set_cons_succ, i64_w, i32_w]
                     rfl
                    refine pure_ (i := 4) (N := some 91) (v := ?_) (a' := ?_) #[true, false, true, false, true, false, false, false, false, false, false, false, false, false, false, false, false, false, false, false, false, false, false, false, false, false, false, false, false, false, false] rfl rfl (any_of HT_.out (by kernel_rfl)) (fun _ _ _ h => h) (Or.inl ⟨by rfl, ?_⟩) ?_ ?_
                    rotate_left
                    ·intro w'
                     go_simp
                     with_reducible rfl
                    rotate_left
                    ·simp only [Act.put, List.setIfInBounds_toArray, List.set_cons_zero, List.set_cons_succ, i64_w, i32_w]
                     rfl
                    refine take_ (i := 1) (N := some 88) (v := ?_) (a' := ?_) #[true, true, true, false, true, false, false, false, false, false, false, false, false, false, false, false, false, false, false, false, false, false, false, false, false, false, false, false, false, false, false] rfl rfl (take_ofW HT_.out HW_.out (by kernel_rfl)) (fun _ _ _ h => h) (Or.inl ⟨by rfl, ?_⟩) hHeld ?_ ?_
                    rotate_left
                    ·rintro w' ⟨s0, s1, s2, s3, s4, s5, s6, s7, s8, s9, s10, s11, s12, s13⟩
                     go_simp
                     with_reducible rfl
                    rotate_left
                    ·simp only [Act.put, List.setIfInBounds_toArray, List.set_cons_zero, List.set_cons_succ, i64_w, i32_w]
                     rfl
                    refine take_ (i := 3) (N := some 90) (v := ?_) (a' := ?_) #[true, true, true, true, true, false, false, false, false, false, false, false, false, false, false, false, false, false, false, false, false, false, false, false, false, false, false, false, false, false, false] rfl rfl (take_ofW HT_.out HW_.out (by kernel_rfl)) (fun _ _ _ h => h) (Or.inl ⟨by rfl, ?_⟩) hHeld ?_ ?_
                    rotate_left
                    ·rintro w' ⟨s0, s1, s2, s3, s4, s5, s6, s7, s8, s9, s10, s11, s12, s13⟩
                     go_simp
                     with_reducible rfl
                    rotate_left
                    ·simp only [Act.put, List.setIfInBounds_toArray, List.set_cons_zero, List.set_cons_succ, i64_w, i32_w]
                     rfl
                    refine pure_ (i := 5) (N := some 92) (v := ?_) (a' := ?_) #[true, true, true, true, true, true, false, false, false, false, false, false, false, false, false, false, false, false, false, false, false, false, false, false, false, false, false, false, false, false, false] rfl rfl (any_of HT_.out (by kernel_rfl)) (fun _ _ _ h => h) (Or.inl ⟨by rfl, ?_⟩) ?_ ?_
                    rotate_left
                    ·intro w'
                     go_simp
                     with_reducible rfl
                    rotate_left
                    ·simp only [Act.put, List.setIfInBounds_toArray, List.set_cons_zero, List.set_cons_succ, i64_w, i32_w]
                     rfl
                    refine pure_ (i := 6) (N := some 93) (v := ?_) (a' := ?_) #[true, true, true, true, true, true, true, false, false, false, false, false, false, false, false, false, false, false, false, false, false, false, false, false, false, false, false, false, false, false, false] rfl rfl (any_of HT_.out (by kernel_rfl)) (fun _ _ _ h => h) (Or.inl ⟨by rfl, ?_⟩) ?_ ?_
                    rotate_left
                    ·intro w'
                     go_simp
                     with_reducible rfl
                    rotate_left
                    ·simp only [Act.put, List.setIfInBounds_toArray, List.set_cons_zero, List.set_cons_succ, i64_w, i32_w]
                     rfl
                    refine take_ (i := 7) (N := some 94) (v := ?_) (a' := ?_) #[true, true, true, true, true, true, true, true, false, false, false, false, false, false, false, false, false, false, false, false, false, false, false, false, false, false, false, false, false, false, false] rfl rfl (take_ofW HT_.out HW_.out (by kernel_rfl)) (fun _ _ _ h => h) (Or.inl ⟨by rfl, ?_⟩) hHeld ?_ ?_
                    rotate_left
                    ·rintro w' ⟨s0, s1, s2, s3, s4, s5, s6, s7, s8, s9, s10, s11, s12, s13⟩
                     go_simp
                     with_reducible rfl
                    rotate_left
                    ·simp only [Act.put, List.setIfInBounds_toArray, List.set_cons_zero, List.set_cons_succ, i64_w, i32_w]
                     rfl
                    refine pure_ (i := 8) (N := some 95) (v := ?_) (a' := ?_) #[true, true, true, true, true, true, true, true, true, false, false, false, false, false, false, false, false, false, false, false, false, false, false, false, false, false, false, false, false, false, false] rfl rfl (any_of HT_.out (by kernel_rfl)) (fun _ _ _ h => h) (Or.inl ⟨by rfl, ?_⟩) ?_ ?_
                    rotate_left
                    ·intro w'
                     go_simp
                     with_reducible rfl
                    rotate_left
                    ·simp only [Act.put, List.setIfInBounds_toArray, List.set_cons_zero, List.set_cons_succ, i64_w, i32_w]
                     rfl
                    refine pure_ (i := 9) (N := some 96) (v := ?_) (a' := ?_) #[true, true, true, true, true, true, true, true, true, true, false, false, false, false, false, false, false, false, false, false, false, false, false, false, false, false, false, false, false, false, false] rfl rfl (any_of HT_.out (by kernel_rfl)) (fun _ _ _ h => h) (Or.inl ⟨by rfl, ?_⟩) ?_ ?_
                    rotate_left
                    ·intro w'
                     go_simp
                     with_reducible rfl
                    rotate_left
                    ·simp only [Act.put, List.setIfInBounds_toArray, List.set_cons_zero, List.set_cons_succ, i64_w, i32_w]
                     rfl
                    refine pure_ (i := 10) (N := some 97) (v := ?_) (a' := ?_) #[true, true, true, true, true, true, true, true, true, true, true, false, false, false, false, false, false, false, false, false, false, false, false, false, false, false, false, false, false, false, false] rfl rfl (any_of HT_.out (by kernel_rfl)) (fun _ _ _ h => h) (Or.inl ⟨by rfl, ?_⟩) ?_ ?_
                    rotate_left
                    ·intro w'
                     go_simp
                     with_reducible rfl
                    rotate_left
                    ·simp only [Act.put, List.setIfInBounds_toArray, List.set_cons_zero, List.set_cons_succ, i64_w, i32_w]
                     rfl
                    refine pure_ (i := 12) (N := some 99) (v := ?_) (a' := ?_) #[true, true, true, true, true, true, true, true, true, true, true, false, true, false, false, false, false, false, false, false, false, false, false, false, false, false, false, false, false, false, false] rfl rfl (any_of HT_.out (by kernel_rfl)) (fun _ _ _ h => h) (Or.inl ⟨by rfl, ?_⟩) ?_ ?_
                    rotate_left
                    ·intro w'
                     go_simp
                     with_reducible rfl
                    rotate_left
                    ·simp only [Act.put, List.setIfInBounds_toArray, List.set_cons_zero, List.set_cons_succ, i64_w, i32_w]
                     rfl
                    refine pure_ (i := 14) (N := some 101) (v := ?_) (a' := ?_) #[true, true, true, true, true, true, true, true, true, true, true, false, true, false, true, false, false, false, false, false, false, false, false, false, false, false, false, false, false, false, false] rfl rfl (any_of HT_.out (by kernel_rfl)) (fun _ _ _ h => h) (Or.inl ⟨by rfl, ?_⟩) ?_ ?_
                    rotate_left
                    ·intro w'
                     go_simp
                     with_reducible rfl
                    rotate_left
                    ·simp only [Act.put, List.setIfInBounds_toArray, List.set_cons_zero, List.set_cons_succ, i64_w, i32_w]
                     rfl
                    refine take_ (i := 11) (N := some 98) (v := ?_) (a' := ?_) #[true, true, true, true, true, true, true, true, true, true, true, true, true, false, true, false, false, false, false, false, false, false, false, false, false, false, false, false, false, false, false] rfl rfl (take_ofW HT_.out HW_.out (by kernel_rfl)) (fun _ _ _ h => h) (Or.inl ⟨by rfl, ?_⟩) hHeld ?_ ?_
                    rotate_left
                    ·rintro w' ⟨s0, s1, s2, s3, s4, s5, s6, s7, s8, s9, s10, s11, s12, s13⟩
                     go_simp
                     with_reducible rfl
                    rotate_left
                    ·simp only [Act.put, List.setIfInBounds_toArray, List.set_cons_zero, List.set_cons_succ, i64_w, i32_w]
                     rfl
                    refine take_ (i := 13) (N := some 100) (v := ?_) (a' := ?_) #[true, true, true, true, true, true, true, true, true, true, true, true, true, true, true, false, false, false, false, false, false, false, false, false, false, false, false, false, false, false, false] rfl rfl (take_ofW HT_.out HW_.out (by kernel_rfl)) (fun _ _ _ h => h) (Or.inl ⟨by rfl, ?_⟩) hHeld ?_ ?_
                    rotate_left
                    ·rintro w' ⟨s0, s1, s2, s3, s4, s5, s6, s7, s8, s9, s10, s11, s12, s13⟩
                     go_simp
                     with_reducible rfl
                    rotate_left
                    ·simp only [Act.put, List.setIfInBounds_toArray, List.set_cons_zero, List.set_cons_succ, i64_w, i32_w]
                     rfl
                    refine pure_ (i := 15) (N := some 102) (v := ?_) (a' := ?_) #[true, true, true, true, true, true, true, true, true, true, true, true, true, true, true, true, false, false, false, false, false, false, false, false, false, false, false, false, false, false, false] rfl rfl (any_of HT_.out (by kernel_rfl)) (fun _ _ _ h => h) (Or.inl ⟨by rfl, ?_⟩) ?_ ?_
                    rotate_left
                    ·intro w'
                     go_simp
                     with_reducible rfl
                    rotate_left
                    ·simp only [Act.put, List.setIfInBounds_toArray, List.set_cons_zero, List.set_cons_succ, i64_w, i32_w]
                     rfl
                    refine pure_ (i := 16) (N := some 103) (v := ?_) (a' := ?_) #[true, true, true, true, true, true, true, true, true, true, true, true, true, true, true, true, true, false, false, false, false, false, false, false, false, false, false, false, false, false, false] rfl rfl (any_of HT_.out (by kernel_rfl)) (fun _ _ _ h => h) (Or.inl ⟨by rfl, ?_⟩) ?_ ?_
                    rotate_left
                    ·intro w'
                     go_simp
                     with_reducible rfl
                    rotate_left
                    ·simp only [Act.put, List.setIfInBounds_toArray, List.set_cons_zero, List.set_cons_succ, i64_w, i32_w]
                     rfl
                    refine take_ (i := 17) (N := some 104) (v := ?_) (a' := ?_) #[true, true, true, true, true, true, true, true, true, true, true, true, true, true, true, true, true, true, false, false, false, false, false, false, false, false, false, false, false, false, false] rfl rfl (take_ofW HT_.out HW_.out (by kernel_rfl)) (fun _ _ _ h => h) (Or.inl ⟨by rfl, ?_⟩) hHeld ?_ ?_
                    rotate_left
                    ·rintro w' ⟨s0, s1, s2, s3, s4, s5, s6, s7, s8, s9, s10, s11, s12, s13⟩
                     go_simp
                     with_reducible rfl
                    rotate_left
                    ·simp only [Act.put, List.setIfInBounds_toArray, List.set_cons_zero, List.set_cons_succ, i64_w, i32_w]
                     rfl
                    refine pure_ (i := 18) (N := some 105) (v := ?_) (a' := ?_) #[true, true, true, true, true, true, true, true, true, true, true, true, true, true, true, true, true, true, true, false, false, false, false, false, false, false, false, false, false, false, false] rfl rfl (any_of HT_.out (by kernel_rfl)) (fun _ _ _ h => h) (Or.inl ⟨by rfl, ?_⟩) ?_ ?_
                    rotate_left
                    ·intro w'
                     go_simp
                     with_reducible rfl
                    rotate_left
                    ·simp only [Act.put, List.setIfInBounds_toArray, List.set_cons_zero, List.set_cons_succ, i64_w, i32_w]
                     rfl
                    refine pure_ (i := 19) (N := some 106) (v := ?_) (a' := ?_) #[true, true, true, true, true, true, true, true, true, true, true, true, true, true, true, true, true, true, true, true, false, false, false, false, false, false, false, false, false, false, false] rfl rfl (any_of HT_.out (by kernel_rfl)) (fun _ _ _ h => h) (Or.inl ⟨by rfl, ?_⟩) ?_ ?_
                    rotate_left
                    ·intro w'
                     go_simp
                     with_reducible rfl
                    rotate_left
                    ·simp only [Act.put, List.setIfInBounds_toArray, List.set_cons_zero, List.set_cons_succ, i64_w, i32_w]
                     rfl
                    refine pure_ (i := 20) (N := some 107) (v := ?_) (a' := ?_) #[true, true, true, true, true, true, true, true, true, true, true, true, true, true, true, true, true, true, true, true, true, false, false, false, false, false, false, false, false, false, false] rfl rfl (any_of HT_.out (by kernel_rfl)) (fun _ _ _ h => h) (Or.inl ⟨by rfl, ?_⟩) ?_ ?_
                    rotate_left
                    ·intro w'
                     go_simp
                     with_reducible rfl
                    rotate_left
                    ·simp only [Act.put, List.setIfInBounds_toArray, List.set_cons_zero, List.set_cons_succ, i64_w, i32_w]
                     rfl
                    refine pure_ (i := 22) (N := some 109) (v := ?_) (a' := ?_) #[true, true, true, true, true, true, true, true, true, true, true, true, true, true, true, true, true, true, true, true, true, false, true, false, false, false, false, false, false, false, false] rfl rfl (any_of HT_.out (by kernel_rfl)) (fun _ _ _ h => h) (Or.inl ⟨by rfl, ?_⟩) ?_ ?_
                    rotate_left
                    ·intro w'
                     go_simp
                     with_reducible rfl
                    rotate_left
                    ·simp only [Act.put, List.setIfInBounds_toArray, List.set_cons_zero, List.set_cons_succ, i64_w, i32_w]
                     rfl
                    refine pure_ (i := 24) (N := some 111) (v := ?_) (a' := ?_) #[true, true, true, true, true, true, true, true, true, true, true, true, true, true, true, true, true, true, true, true, true, false, true, false, true, false, false, false, false, false, false] rfl rfl (any_of HT_.out (by kernel_rfl)) (fun _ _ _ h => h) (Or.inl ⟨by rfl, ?_⟩) ?_ ?_
                    rotate_left
                    ·intro w'
                     go_simp
                     with_reducible rfl
                    rotate_left
                    ·simp only [Act.put, List.setIfInBounds_toArray, List.set_cons_zero, List.set_cons_succ, i64_w, i32_w]
                     rfl
                    refine take_ (i := 21) (N := some 108) (v := ?_) (a' := ?_) #[true, true, true, true, true, true, true, true, true, true, true, true, true, true, true, true, true, true, true, true, true, true, true, false, true, false, false, false, false, false, false] rfl rfl (take_ofW HT_.out HW_.out (by kernel_rfl)) (fun _ _ _ h => h) (Or.inl ⟨by rfl, ?_⟩) hHeld ?_ ?_
                    rotate_left
                    ·rintro w' ⟨s0, s1, s2, s3, s4, s5, s6, s7, s8, s9, s10, s11, s12, s13⟩
                     go_simp
                     with_reducible rfl
                    rotate_left
                    ·simp only [Act.put, List.setIfInBounds_toArray, List.set_cons_zero, List.set_cons_succ, i64_w, i32_w]
                     rfl
                    refine take_ (i := 23) (N := some 110) (v := ?_) (a' := ?_) #[true, true, true, true, true, true, true, true, true, true, true, true, true, true, true, true, true, true, true, true, true, true, true, true, true, false, false, false, false, false, false] rfl rfl (take_ofW HT_.out HW_.out (by kernel_rfl)) (fun _ _ _ h => h) (Or.inl ⟨by rfl, ?_⟩) hHeld ?_ ?_
                    rotate_left
                    ·rintro w' ⟨s0, s1, s2, s3, s4, s5, s6, s7, s8, s9, s10, s11, s12, s13⟩
                     go_simp
                     with_reducible rfl
                    rotate_left
                    ·simp only [Act.put, List.setIfInBounds_toArray, List.set_cons_zero, List.set_cons_succ, i64_w, i32_w]
                     rfl
                    refine pure_ (i := 25) (N := some 112) (v := ?_) (a' := ?_) #[true, true, true, true, true, true, true, true, true, true, true, true, true, true, true, true, true, true, true, true, true, true, true, true, true, true, false, false, false, false, false] rfl rfl (any_of HT_.out (by kernel_rfl)) (fun _ _ _ h => h) (Or.inl ⟨by rfl, ?_⟩) ?_ ?_
                    rotate_left
                    ·intro w'
                     go_simp
                     with_reducible rfl
                    rotate_left
                    ·simp only [Act.put, List.setIfInBounds_toArray, List.set_cons_zero, List.set_cons_succ, i64_w, i32_w]
                     rfl
                    refine pure_ (i := 26) (N := some 113) (v := ?_) (a' := ?_) #[true, true, true, true, true, true, true, true, true, true, true, true, true, true, true, true, true, true, true, true, true, true, true, true, true, true, true, false, false, false, false] rfl rfl (any_of HT_.out (by kernel_rfl)) (fun _ _ _ h => h) (Or.inl ⟨by rfl, ?_⟩) ?_ ?_
                    rotate_left
                    ·intro w'
                     go_simp
                     with_reducible rfl
                    rotate_left
                    ·simp only [Act.put, List.setIfInBounds_toArray, List.set_cons_zero, List.set_cons_succ, i64_w, i32_w]
                     rfl
                    refine take_ (i := 27) (N := some 114) (v := ?_) (a' := ?_) #[true, true, true, true, true, true, true, true, true, true, true, true, true, true, true, true, true, true, true, true, true, true, true, true, true, true, true, true, false, false, false] rfl rfl (take_ofW HT_.out HW_.out (by kernel_rfl)) (fun _ _ _ h => h) (Or.inl ⟨by rfl, ?_⟩) hHeld ?_ ?_
                    rotate_left
                    ·rintro w' ⟨s0, s1, s2, s3, s4, s5, s6, s7, s8, s9, s10, s11, s12, s13⟩
                     go_simp
                     with_reducible rfl
                    rotate_left
                    ·simp only [Act.put, List.setIfInBounds_toArray, List.set_cons_zero, List.set_cons_succ, i64_w, i32_w]
                     rfl
                    refine pure_ (i := 28) (N := some 115) (v := ?_) (a' := ?_) #[true, true, true, true, true, true, true, true, true, true, true, true, true, true, true, true, true, true, true, true, true, true, true, true, true, true, true, true, true, false, false] rfl rfl (any_of HT_.out (by kernel_rfl)) (fun _ _ _ h => h) (Or.inl ⟨by rfl, ?_⟩) ?_ ?_
                    rotate_left
                    ·intro w'
                     go_simp
                     with_reducible rfl
                    rotate_left
                    ·simp only [Act.put, List.setIfInBounds_toArray, List.set_cons_zero, List.set_cons_succ, i64_w, i32_w]
                     rfl
                    refine pure_ (i := 29) (N := some 116) (v := ?_) (a' := ?_) #[true, true, true, true, true, true, true, true, true, true, true, true, true, true, true, true, true, true, true, true, true, true, true, true, true, true, true, true, true, true, false] rfl rfl (any_of HT_.out (by kernel_rfl)) (fun _ _ _ h => h) (Or.inl ⟨by rfl, ?_⟩) ?_ ?_
                    rotate_left
                    ·intro w'
                     go_simp
                     with_reducible rfl
                    rotate_left
                    ·simp only [Act.put, List.setIfInBounds_toArray, List.set_cons_zero, List.set_cons_succ, i64_w, i32_w]
                     rfl
                    refine pure_ (i := 30) (N := some 117) (v := ?_) (a' := ?_) #[true, true, true, true, true, true, true, true, true, true, true, true, true, true, true, true, true, true, true, true, true, true, true, true, true, true, true, true, true, true, true] rfl rfl (any_of HT_.out (by kernel_rfl)) (fun _ _ _ h => h) (Or.inl ⟨by rfl, ?_⟩) ?_ ?_
                    rotate_left
                    ·intro w'
                     go_simp
                     with_reducible rfl
                    rotate_left
                    ·simp only [Act.put, List.setIfInBounds_toArray, List.set_cons_zero, List.set_cons_succ, i64_w, i32_w]
                     rfl
                    refine done_ (done_of HT_.out (by kernel_rfl)) ?_
                    try go_wp2
                    go_roundg k4
                    case measure => have := HJ2.out; have := HK2.out; have := HJ32.out; have := HK4.out; omega
                    case rel => exact ⟨(wrap64 (x9_4 + 1)), (by first | rfl | (simp; done) | (simp [*]; done)), H', ⟨by have := HJ2.out; have := HK2.out; have := HJ32.out; have := HK4.out; omega⟩, ⟨by (with_reducible repeat (first | apply Kd.V_alloc | apply Kd.V_drewN | apply Kd.V_drew)); exact Kd.V_mono HO_253001.out (fun _ hk => ⟨hk.1, hk.2.1⟩)⟩, ⟨by (with_reducible repeat (first | refine blk_drewN ?_ _ | refine blk_drew ?_ | refine blk_alloc ?_ _)); exact BK235.out⟩, ⟨by (with_reducible repeat (first | refine blk_drewN ?_ _ | refine blk_drew ?_ | refine blk_alloc ?_ _)); exact BK252.out⟩, ⟨by repeat (first | (with_reducible first | exact HB.out | apply below_alloc | apply pw_below_drewN | apply below_drew1 | refine below_set ?_ GE235.out | refine below_set ?_ GE252.out | refine below_set ?_ GE255.out) | exact HB.out)⟩⟩
                  ·rw [if_neg c58] at H
                   have c58b0 : (((rd_T34 l0_1 x9_4).f1) == ((rd_T34 l0_1 x7_2).f1)) = false := beq_eq_false_iff_ne.mpr c58
                   have c58b1 : (((rd_T34 l0_1 x9_4).f1) != ((rd_T34 l0_1 x7_2).f1)) = true := bne_iff_ne.mpr c58
                   have H' := Aside0.mk H
                   clear H
                   have hnb76 := NB235_252.out
                   have hnc76 := NB252_235.out
                   have hcz77_0 : wr.cell? ⟨gb235, 0, none⟩ = some (.int .i64 a0_0) := (blk_cell BK235.out 0).trans rfl
                   have hcz77_1 : wr.cell? ⟨gb235, 1, none⟩ = some (.slice A0_1 l0_1.length c0_1) := (blk_cell BK235.out 1).trans rfl
                   have hfz77_0 := blk_frozen BK235.out 0
                   have hfz77_1 := blk_frozen BK235.out 1
                   have p254 : 0 ≤ (x9_4 : Int) := of_decide_eq_true (by first | (with_reducible assumption) | assumption)
                   have q254 : x9_4 < (l0_1.length : Int) := of_decide_eq_true (by first | (with_reducible assumption) | assumption)
                   obtain ⟨ad254, e254, hx254_0, hx254_1, hx254_2⟩ := at_T34 HR0_1.out x9_4 p254 q254
                   cases e254
                   replace hx254_0 := (HB.out.cell (World.block_lt_of_cell? w _ hx254_0)).trans hx254_0
                   replace hx254_1 := (HB.out.cell (World.block_lt_of_cell? w _ hx254_1)).trans hx254_1
                   replace hx254_2 := (HB.out.cell (World.block_lt_of_cell? w _ hx254_2)).trans hx254_2
                   replace p254 := eq_true p254
                   replace q254 := eq_true q254
                   try go_wp2_with (first | ((with_reducible refine gate_dst (N := 10) rfl ?_); (try (refine gate_guard (by rfl) ?_; dsimp only)); refine box_event ?hg (N := 10) ?hd (cs := #[.int .i64 0, .int .i64 0, .int .i64 0]) (t := 34) ?hr ?_; (case hd => rfl); (case hg => rfl); (case hr => first | (go_simp; done) | (go_simp; rfl)); intro gb255 hg w78 hbox hb; have n0_ := Aside0.mk (Kd.V_below (Kd.V_elderB (by (with_reducible repeat (first | apply Kd.V_alloc | apply Kd.V_drewN | apply Kd.V_drew)); exact HO_253001.out) gb255 (Nat.le_of_eq hg.symm)) hb); have n1_ := Aside0.mk (blk_below (g := gb235) (o := .cells #[.int .i64 a0_0, .slice (some ad254) l0_1.length c0_1] 24 (0, 0)) (by (with_reducible repeat (first | refine blk_drewN ?_ _ | refine blk_drew ?_ | refine blk_alloc ?_ _)); exact BK235.out) hb); have n2_ := Aside0.mk (blk_below (g := gb252) (o := .cells #[.int .i64 t246, .slice Ao25 t247.length co25] 29 (0, 0)) (by (with_reducible repeat (first | refine blk_drewN ?_ _ | refine blk_drew ?_ | refine blk_alloc ?_ _)); exact BK252.out) hb); have n3_ := Aside0.mk (below_step (by repeat (first | (with_reducible first | exact HB.out | apply below_alloc | apply pw_below_drewN | apply below_drew1 | refine below_set ?_ GE235.out | refine below_set ?_ GE252.out) | exact HB.out)) hb); have n4_ := Aside0.mk (hbox); have n5_ := Aside0.mk ((by rw [hg]; exact (below_size (by repeat (first | (with_reducible first | exact HB.out | apply below_alloc | apply pw_below_drewN | apply below_drew1 | refine below_set ?_ GE235.out | refine below_set ?_ GE252.out) | exact HB.out))) : w.heap.size ≤ gb255)); have n6_ := Aside0.mk ((by rw [hg]; exact (below_size (by repeat (first | (with_reducible first | exact HB.out | apply below_alloc | apply pw_below_drewN | apply below_drew1 | refine below_set ?_ GE235.out | refine below_set ?_ GE252.out) | exact HB.out))) : w.heap.size ≤ gb255)); have n7_ := Aside0.mk ((by rw [hg]; exact Nat.ne_of_lt (blk_lt (g := gb235) (o := .cells #[.int .i64 a0_0, .slice (some ad254) l0_1.length c0_1] 24 (0, 0)) (by (with_reducible repeat (first | refine blk_drewN ?_ _ | refine blk_drew ?_ | refine blk_alloc ?_ _)); exact BK235.out)) : gb235 ≠ gb255)); have n8_ := Aside0.mk ((by rw [hg]; exact Nat.ne_of_gt (blk_lt (g := gb235) (o := .cells #[.int .i64 a0_0, .slice (some ad254) l0_1.length c0_1] 24 (0, 0)) (by (with_reducible repeat (first | refine blk_drewN ?_ _ | refine blk_drew ?_ | refine blk_alloc ?_ _)); exact BK235.out)) : gb255 ≠ gb235)); have n9_ := Aside0.mk ((by rw [hg]; exact Nat.ne_of_lt (blk_lt (g := gb252) (o := .cells #[.int .i64 t246, .slice Ao25 t247.length co25] 29 (0, 0)) (by (with_reducible repeat (first | refine blk_drewN ?_ _ | refine blk_drew ?_ | refine blk_alloc ?_ _)); exact BK252.out)) : gb252 ≠ gb255)); have n10_ := Aside0.mk ((by rw [hg]; exact Nat.ne_of_gt (blk_lt (g := gb252) (o := .cells #[.int .i64 t246, .slice Ao25 t247.length co25] 29 (0, 0)) (by (with_reducible repeat (first | refine blk_drewN ?_ _ | refine blk_drew ?_ | refine blk_alloc ?_ _)); exact BK252.out)) : gb255 ≠ gb252)); clear HO_253001; clear BK235; clear BK252; clear HB; have HO_253001 := n0_; have BK235 := n1_; have BK252 := n2_; have HB := n3_; have BK255 := n4_; have GW255 := n5_; have GE255 := n6_; have NB235_255 := n7_; have NB255_235 := n8_; have NB252_255 := n9_; have NB255_252 := n10_; clear n0_ n1_ n2_ n3_ n4_ n5_ n6_ n7_ n8_ n9_ n10_; clear hb hbox hg; have hnb79 := NB255_235.out; have hnc79 := NB235_255.out; have hnb80 := NB255_252.out; have hnc80 := NB252_255.out; have hcz81_0 : w78.cell? ⟨gb255, 0, none⟩ = some (.int .i64 0) := (blk_cell BK255.out 0).trans rfl; have hcz81_1 : w78.cell? ⟨gb255, 1, none⟩ = some (.int .i64 0) := (blk_cell BK255.out 1).trans rfl; have hcz81_2 : w78.cell? ⟨gb255, 2, none⟩ = some (.int .i64 0) := (blk_cell BK255.out 2).trans rfl; have hfz81_0 := blk_frozen BK255.out 0; have hfz81_1 := blk_frozen BK255.out 1; have hfz81_2 := blk_frozen BK255.out 2))
                   have n0_ : Aside0 (Kd.V k60 60 (((w78.setCell ⟨gb255, 0, none⟩ (.int .i64 ((rd_T34 l0_1 x9_4).f0))).setCell ⟨gb255, 1, none⟩ (.int .i64 ((rd_T34 l0_1 x9_4).f1))).setCell ⟨gb255, 2, none⟩ (.int .i64 ((rd_T34 l0_1 x9_4).f2))) w.heap.size (fun k_ => k_ ≠ gb235 ∧ k_ ≠ gb252 ∧ k_ ≠ gb255) (.slice Ao25 t247.length co25) t247) := ⟨by (with_reducible repeat (first | apply Kd.V_alloc | apply Kd.V_drewN | apply Kd.V_drew)); exact Kd.V_mono (Kd.V_far (p := ⟨gb255, 2, none⟩) (Kd.V_far (p := ⟨gb255, 1, none⟩) (Kd.V_far (p := ⟨gb255, 0, none⟩) (Kd.V_mono HO_253001.out (fun k_ hk => (⟨hk, hk.2⟩ : _ ∧ k_ ≠ gb255))) (fun _ hk => hk.2) (.int .i64 ((rd_T34 l0_1 x9_4).f0))) (fun _ hk => hk.2) (.int .i64 ((rd_T34 l0_1 x9_4).f1))) (fun _ hk => hk.2) (.int .i64 ((rd_T34 l0_1 x9_4).f2))) (fun _ hk => ⟨hk.1.1.1, ⟨hk.1.1.2, hk.1.2⟩⟩)⟩
                   have n1_ : Aside0 ((((w78.setCell ⟨gb255, 0, none⟩ (.int .i64 ((rd_T34 l0_1 x9_4).f0))).setCell ⟨gb255, 1, none⟩ (.int .i64 ((rd_T34 l0_1 x9_4).f1))).setCell ⟨gb255, 2, none⟩ (.int .i64 ((rd_T34 l0_1 x9_4).f2))).heap[gb235]? = some (.cells #[.int .i64 a0_0, .slice (some ad254) l0_1.length c0_1] 24 (0, 0))) := ⟨by (with_reducible repeat (first | refine blk_drewN ?_ _ | refine blk_drew ?_ | refine blk_alloc ?_ _)); refine blk_far ?_ NB235_255.out _; (with_reducible repeat (first | refine blk_drewN ?_ _ | refine blk_drew ?_ | refine blk_alloc ?_ _)); refine blk_far ?_ NB235_255.out _; (with_reducible repeat (first | refine blk_drewN ?_ _ | refine blk_drew ?_ | refine blk_alloc ?_ _)); refine blk_far ?_ NB235_255.out _; (with_reducible repeat (first | refine blk_drewN ?_ _ | refine blk_drew ?_ | refine blk_alloc ?_ _)); exact BK235.out⟩
                   have n2_ : Aside0 ((((w78.setCell ⟨gb255, 0, none⟩ (.int .i64 ((rd_T34 l0_1 x9_4).f0))).setCell ⟨gb255, 1, none⟩ (.int .i64 ((rd_T34 l0_1 x9_4).f1))).setCell ⟨gb255, 2, none⟩ (.int .i64 ((rd_T34 l0_1 x9_4).f2))).heap[gb252]? = some (.cells #[.int .i64 t246, .slice Ao25 t247.length co25] 29 (0, 0))) := ⟨by (with_reducible repeat (first | refine blk_drewN ?_ _ | refine blk_drew ?_ | refine blk_alloc ?_ _)); refine blk_far ?_ NB252_255.out _; (with_reducible repeat (first | refine blk_drewN ?_ _ | refine blk_drew ?_ | refine blk_alloc ?_ _)); refine blk_far ?_ NB252_255.out _; (with_reducible repeat (first | refine blk_drewN ?_ _ | refine blk_drew ?_ | refine blk_alloc ?_ _)); refine blk_far ?_ NB252_255.out _; (with_reducible repeat (first | refine blk_drewN ?_ _ | refine blk_drew ?_ | refine blk_alloc ?_ _)); exact BK252.out⟩
                   have n3_ : Aside0 ((((w78.setCell ⟨gb255, 0, none⟩ (.int .i64 ((rd_T34 l0_1 x9_4).f0))).setCell ⟨gb255, 1, none⟩ (.int .i64 ((rd_T34 l0_1 x9_4).f1))).setCell ⟨gb255, 2, none⟩ (.int .i64 ((rd_T34 l0_1 x9_4).f2))).heap[gb255]? = some (.cells #[.int .i64 ((rd_T34 l0_1 x9_4).f0), .int .i64 ((rd_T34 l0_1 x9_4).f1), .int .i64 ((rd_T34 l0_1 x9_4).f2)] 34 (0, 0))) := ⟨by (with_reducible repeat (first | refine blk_drewN ?_ _ | refine blk_drew ?_ | refine blk_alloc ?_ _)); refine blk_put (cs := #[.int .i64 ((rd_T34 l0_1 x9_4).f0), .int .i64 ((rd_T34 l0_1 x9_4).f1), .int .i64 0]) ?_ 2 _ rfl; (with_reducible repeat (first | refine blk_drewN ?_ _ | refine blk_drew ?_ | refine blk_alloc ?_ _)); refine blk_put (cs := #[.int .i64 ((rd_T34 l0_1 x9_4).f0), .int .i64 0, .int .i64 0]) ?_ 1 _ rfl; (with_reducible repeat (first | refine blk_drewN ?_ _ | refine blk_drew ?_ | refine blk_alloc ?_ _)); refine blk_put (cs := #[.int .i64 0, .int .i64 0, .int .i64 0]) ?_ 0 _ rfl; (with_reducible repeat (first | refine blk_drewN ?_ _ | refine blk_drew ?_ | refine blk_alloc ?_ _)); exact BK255.out⟩
                   have n4_ : Aside0 (Below w.heap.size w (((w78.setCell ⟨gb255, 0, none⟩ (.int .i64 ((rd_T34 l0_1 x9_4).f0))).setCell ⟨gb255, 1, none⟩ (.int .i64 ((rd_T34 l0_1 x9_4).f1))).setCell ⟨gb255, 2, none⟩ (.int .i64 ((rd_T34 l0_1 x9_4).f2)))) := ⟨by repeat (first | (with_reducible first | exact HB.out | apply below_alloc | apply pw_below_drewN | apply below_drew1 | refine below_set ?_ GE235.out | refine below_set ?_ GE252.out | refine below_set ?_ GE255.out) | exact HB.out)⟩
                   (try clear HO_253001)
                   (try clear BK235)
                   (try clear BK252)
                   (try clear BK255)
                   (try clear HB)
                   generalize (((w78.setCell ⟨gb255, 0, none⟩ (.int .i64 ((rd_T34 l0_1 x9_4).f0))).setCell ⟨gb255, 1, none⟩ (.int .i64 ((rd_T34 l0_1 x9_4).f1))).setCell ⟨gb255, 2, none⟩ (.int .i64 ((rd_T34 l0_1 x9_4).f2))) = w82 at n0_ n1_ n2_ n3_ n4_ ⊢
                   have HO_253001 := n0_
                   have BK235 := n1_
                   have BK252 := n2_
                   have BK255 := n3_
                   have HB := n4_
                   clear n0_ n1_ n2_ n3_ n4_
                   have n0_ := Aside0.mk (Kd.V_drew HO_253001.out)
                   have n1_ := Aside0.mk (blk_drew BK235.out)
                   have n2_ := Aside0.mk (blk_drew BK252.out)
                   have n3_ := Aside0.mk (blk_drew BK255.out)
                   have n4_ := Aside0.mk (below_drew1 HB.out)
                   clear HO_253001
                   clear BK235
                   clear BK252
                   clear BK255
                   clear HB
                   have HO_253001 := n0_
                   have BK235 := n1_
                   have BK252 := n2_
                   have BK255 := n3_
                   have HB := n4_
                   clear n0_ n1_ n2_ n3_ n4_
                   have p256 : 0 ≤ (x7_2 : Int) := of_decide_eq_true (by first | (with_reducible assumption) | assumption)
                   have q256 : x7_2 < (l0_1.length : Int) := of_decide_eq_true (by first | (with_reducible assumption) | assumption)
                   obtain ⟨ad256, e256, hx256_0, hx256_1, hx256_2⟩ := at_T34 HR0_1.out x7_2 p256 q256
                   have hw256_2 := hx256_2
                   have hw256_1 := hx256_1
                   have hw256_0 := hx256_0
                   obtain rfl : ad254 = ad256 := (by injection e256)
                   replace hx256_0 := (HB.out.cell (World.block_lt_of_cell? w _ hx256_0)).trans hx256_0
                   replace hx256_1 := (HB.out.cell (World.block_lt_of_cell? w _ hx256_1)).trans hx256_1
                   replace hx256_2 := (HB.out.cell (World.block_lt_of_cell? w _ hx256_2)).trans hx256_2
                   replace p256 := eq_true p256
                   replace q256 := eq_true q256
                   have p257 : 0 ≤ (x7_2 : Int) := of_decide_eq_true (by first | (with_reducible assumption) | assumption)
                   have q257 : x7_2 < (l0_1.length : Int) := of_decide_eq_true (by first | (with_reducible assumption) | assumption)
                   obtain ⟨ad257, e257, hx257_0, hx257_1, hx257_2⟩ := at_T34 HR0_1.out x7_2 p257 q257
                   have hw257_2 := hx257_2
                   have hw257_1 := hx257_1
                   have hw257_0 := hx257_0
                   obtain rfl : ad254 = ad257 := (by injection e257)
                   replace hx257_0 := (HB.out.cell (World.block_lt_of_cell? w _ hx257_0)).trans hx257_0
                   replace hx257_1 := (HB.out.cell (World.block_lt_of_cell? w _ hx257_1)).trans hx257_1
                   replace hx257_2 := (HB.out.cell (World.block_lt_of_cell? w _ hx257_2)).trans hx257_2
                   replace p257 := eq_true p257
                   replace q257 := eq_true q257
                   refine start_ (n := 31) (S := fun w' => w'.cell? ⟨gb255, 0, none⟩ = some (.int .i64 ((rd_T34 l0_1 x9_4).f0)) ∧ w'.cell? ⟨gb255, 1, none⟩ = some (.int .i64 ((rd_T34 l0_1 x9_4).f1)) ∧ w'.cell? ⟨gb255, 2, none⟩ = some (.int .i64 ((rd_T34 l0_1 x9_4).f2)) ∧ w'.cell? ⟨gb235, 0, none⟩ = some (.int .i64 a0_0) ∧ w'.cell? ⟨gb235, 1, none⟩ = some (.slice (some ad254) l0_1.length c0_1) ∧ w'.cell? (ad254.add ((x7_2).toNat * 3)) = some (.int .i64 ((rd_T34 l0_1 x7_2).f0)) ∧ w'.cell? ⟨(ad254.add ((x7_2).toNat * 3)).block, (ad254.add ((x7_2).toNat * 3)).off + 1, none⟩ = some (.int .i64 ((rd_T34 l0_1 x7_2).f1)) ∧ w'.cell? ⟨(ad254.add ((x7_2).toNat * 3)).block, (ad254.add ((x7_2).toNat * 3)).off + 2, none⟩ = some (.int .i64 ((rd_T34 l0_1 x7_2).f2)) ∧ w'.cell? (ad254.add ((x7_2).toNat * 3)) = some (.int .i64 ((rd_T34 l0_1 x7_2).f0)) ∧ w'.cell? ⟨(ad254.add ((x7_2).toNat * 3)).block, (ad254.add ((x7_2).toNat * 3)).off + 1, none⟩ = some (.int .i64 ((rd_T34 l0_1 x7_2).f1)) ∧ w'.cell? ⟨(ad254.add ((x7_2).toNat * 3)).block, (ad254.add ((x7_2).toNat * 3)).off + 2, none⟩ = some (.int .i64 ((rd_T34 l0_1 x7_2).f2))) (ds := []) #[false, false, false, false, false, false, false, false, false, false, false, false, false, false, false, false, false, false, false, false, false, false, false, false, false, false, false, false, false, false, false] (by kernel_rfl) rfl rfl ⟨(blk_cell BK255.out 0).trans rfl, (blk_cell BK255.out 1).trans rfl, (blk_cell BK255.out 2).trans rfl, (blk_cell BK235.out 0).trans rfl, (blk_cell BK235.out 1).trans rfl, ((HB.out.cell (World.block_lt_of_cell? w _ hw256_0)).trans hw256_0), ((HB.out.cell (World.block_lt_of_cell? w _ hw256_1)).trans hw256_1), ((HB.out.cell (World.block_lt_of_cell? w _ hw256_2)).trans hw256_2), ((HB.out.cell (World.block_lt_of_cell? w _ hw257_0)).trans hw257_0), ((HB.out.cell (World.block_lt_of_cell? w _ hw257_1)).trans hw257_1), ((HB.out.cell (World.block_lt_of_cell? w _ hw257_2)).trans hw257_2)⟩ (fun hHeld => ?_); refine with_tabW tenterhooklaw16_QueueFirst.tab19 tenterhooklaw16_QueueFirst.bits19 (fun HT_ HW_ => ?_)
                   generalize w82.drew = w83 at HO_253001 BK235 BK252 BK255 HB hx256_0 hx256_1 hx256_2 hx257_0 hx257_1 hx257_2 hHeld ⊢
                   refine pure_ (i := 0) (N := some 87) (v := ?_) (a' := ?_) #[true, false, false, false, false, false, false, false, false, false, false, false, false, false, false, false, false, false, false, false, false, false, false, false, false, false, false, false, false, false, false] rfl rfl (any_of HT_.out (by kernel_rfl)) (fun _ _ _ h => h) (Or.inl ⟨by rfl, ?_⟩) ?_ ?_
                   rotate_left
                   ·intro w'
                    go_simp
                    with_reducible rfl
                   rotate_left
                   ·simp only [Act.put, List.setIfInBounds_toArray, List.set_cons_zero, List.set_cons_succ, i64_w, i32_w]
                    rfl
                   refine pure_ (i := 2) (N := some 89) (v := ?_) (a' := ?_) #[true, false, true, false, false, false, false, false, false, false, false, false, false, false, false, false, false, false, false, false, false, false, false, false, false, false, false, false, false, false, false] rfl rfl (any_of HT_.out (by kernel_rfl)) (fun _ _ _ h => h) (Or.inl ⟨by rfl, ?_⟩) ?_ ?_
                   rotate_left
                   ·intro w'
                    go_simp
                    with_reducible rfl
                   rotate_left
                   ·simp only [Act.put, List.setIfInBounds_toArray, List.set_cons_zero, List.set_cons_succ, i64_w, i32_w]
                    rfl
                   refine pure_ (i := 4) (N := some 91) (v := ?_) (a' := ?_) #[true, false, true, false, true, false, false, false, false, false, false, false, false, false, false, false, false, false, false, false, false, false, false, false, false, false, false, false, false, false, false] rfl rfl (any_of HT_.out (by kernel_rfl)) (fun _ _ _ h => h) (Or.inl ⟨by rfl, ?_⟩) ?_ ?_
                   rotate_left
                   ·intro w'
                    go_simp
                    with_reducible rfl
                   rotate_left
                   ·simp only [Act.put, List.setIfInBounds_toArray, List.set_cons_zero, List.set_cons_succ, i64_w, i32_w]
                    rfl
                   refine take_ (i := 1) (N := some 88) (v := ?_) (a' := ?_) #[true, true, true, false, true, false, false, false, false, false, false, false, false, false, false, false, false, false, false, false, false, false, false, false, false, false, false, false, false, false, false] rfl rfl (take_ofW HT_.out HW_.out (by kernel_rfl)) (fun _ _ _ h => h) (Or.inl ⟨by rfl, ?_⟩) hHeld ?_ ?_
                   rotate_left
                   ·rintro w' ⟨s0, s1, s2, s3, s4, s5, s6, s7, s8, s9, s10⟩
                    go_simp
                    with_reducible rfl
                   rotate_left
                   ·simp only [Act.put, List.setIfInBounds_toArray, List.set_cons_zero, List.set_cons_succ, i64_w, i32_w]
                    rfl
                   refine take_ (i := 3) (N := some 90) (v := ?_) (a' := ?_) #[true, true, true, true, true, false, false, false, false, false, false, false, false, false, false, false, false, false, false, false, false, false, false, false, false, false, false, false, false, false, false] rfl rfl (take_ofW HT_.out HW_.out (by kernel_rfl)) (fun _ _ _ h => h) (Or.inl ⟨by rfl, ?_⟩) hHeld ?_ ?_
                   rotate_left
                   ·rintro w' ⟨s0, s1, s2, s3, s4, s5, s6, s7, s8, s9, s10⟩
                    go_simp
                    with_reducible rfl
                   rotate_left
                   ·simp only [Act.put, List.setIfInBounds_toArray, List.set_cons_zero, List.set_cons_succ, i64_w, i32_w]
                    rfl
                   refine pure_ (i := 5) (N := some 92) (v := ?_) (a' := ?_) #[true, true, true, true, true, true, false, false, false, false, false, false, false, false, false, false, false, false, false, false, false, false, false, false, false, false, false, false, false, false, false] rfl rfl (any_of HT_.out (by kernel_rfl)) (fun _ _ _ h => h) (Or.inl ⟨by rfl, ?_⟩) ?_ ?_
                   rotate_left
                   ·intro w'
                    go_simp
                    with_reducible rfl
                   rotate_left
                   ·simp only [Act.put, List.setIfInBounds_toArray, List.set_cons_zero, List.set_cons_succ, i64_w, i32_w]
                    rfl
                   refine pure_ (i := 6) (N := some 93) (v := ?_) (a' := ?_) #[true, true, true, true, true, true, true, false, false, false, false, false, false, false, false, false, false, false, false, false, false, false, false, false, false, false, false, false, false, false, false] rfl rfl (any_of HT_.out (by kernel_rfl)) (fun _ _ _ h => h) (Or.inl ⟨by rfl, ?_⟩) ?_ ?_
                   rotate_left
                   ·intro w'
                    go_simp
                    with_reducible rfl
                   rotate_left
                   ·simp only [Act.put, List.setIfInBounds_toArray, List.set_cons_zero, List.set_cons_succ, i64_w, i32_w]
                    rfl
                   refine take_ (i := 7) (N := some 94) (v := ?_) (a' := ?_) #[true, true, true, true, true, true, true, true, false, false, false, false, false, false, false, false, false, false, false, false, false, false, false, false, false, false, false, false, false, false, false] rfl rfl (take_ofW HT_.out HW_.out (by kernel_rfl)) (fun _ _ _ h => h) (Or.inl ⟨by rfl, ?_⟩) hHeld ?_ ?_
                   rotate_left
                   ·rintro w' ⟨s0, s1, s2, s3, s4, s5, s6, s7, s8, s9, s10⟩
                    go_simp
                    with_reducible rfl
                   rotate_left
                   ·simp only [Act.put, List.setIfInBounds_toArray, List.set_cons_zero, List.set_cons_succ, i64_w, i32_w]
                    rfl
                   refine pure_ (i := 8) (N := some 95) (v := ?_) (a' := ?_) #[true, true, true, true, true, true, true, true, true, false, false, false, false, false, false, false, false, false, false, false, false, false, false, false, false, false, false, false, false, false, false] rfl rfl (any_of HT_.out (by kernel_rfl)) (fun _ _ _ h => h) (Or.inl ⟨by rfl, ?_⟩) ?_ ?_
                   rotate_left
                   ·intro w'
                    go_simp
                    with_reducible rfl
                   rotate_left
                   ·simp only [Act.put, List.setIfInBounds_toArray, List.set_cons_zero, List.set_cons_succ, i64_w, i32_w]
                    rfl
                   refine pure_ (i := 9) (N := some 96) (v := ?_) (a' := ?_) #[true, true, true, true, true, true, true, true, true, true, false, false, false, false, false, false, false, false, false, false, false, false, false, false, false, false, false, false, false, false, false] rfl rfl (any_of HT_.out (by kernel_rfl)) (fun _ _ _ h => h) (Or.inl ⟨by rfl, ?_⟩) ?_ ?_
                   rotate_left
                   ·intro w'
                    go_simp
                    with_reducible rfl
                   rotate_left
                   ·simp only [Act.put, List.setIfInBounds_toArray, List.set_cons_zero, List.set_cons_succ, i64_w, i32_w]
                    rfl
                   refine pure_ (i := 10) (N := some 97) (v := ?_) (a' := ?_) #[true, true, true, true, true, true, true, true, true, true, true, false, false, false, false, false, false, false, false, false, false, false, false, false, false, false, false, false, false, false, false] rfl rfl (any_of HT_.out (by kernel_rfl)) (fun _ _ _ h => h) (Or.inl ⟨by rfl, ?_⟩) ?_ ?_
                   rotate_left
                   ·intro w'
                    go_simp
                    with_reducible rfl
                   rotate_left
                   ·simp only [Act.put, List.setIfInBounds_toArray, List.set_cons_zero, List.set_cons_succ, i64_w, i32_w]
                    rfl
                   refine pure_ (i := 12) (N := some 99) (v := ?_) (a' := ?_) #[true, true, true, true, true, true, true, true, true, true, true, false, true, false, false, false, false, false, false, false, false, false, false, false, false, false, false, false, false, false, false] rfl rfl (any_of HT_.out (by kernel_rfl)) (fun _ _ _ h => h) (Or.inl ⟨by rfl, ?_⟩) ?_ ?_
                   rotate_left
                   ·intro w'
                    go_simp
                    with_reducible rfl
                   rotate_left
                   ·simp only [Act.put, List.setIfInBounds_toArray, List.set_cons_zero, List.set_cons_succ, i64_w, i32_w]
                    rfl
                   refine pure_ (i := 14) (N := some 101) (v := ?_) (a' := ?_) #[true, true, true, true, true, true, true, true, true, true, true, false, true, false, true, false, false, false, false, false, false, false, false, false, false, false, false, false, false, false, false] rfl rfl (any_of HT_.out (by kernel_rfl)) (fun _ _ _ h => h) (Or.inl ⟨by rfl, ?_⟩) ?_ ?_
                   rotate_left
                   ·intro w'
                    go_simp
                    with_reducible rfl
                   rotate_left
                   ·simp only [Act.put, List.setIfInBounds_toArray, List.set_cons_zero, List.set_cons_succ, i64_w, i32_w]
                    rfl
                   refine take_ (i := 11) (N := some 98) (v := ?_) (a' := ?_) #[true, true, true, true, true, true, true, true, true, true, true, true, true, false, true, false, false, false, false, false, false, false, false, false, false, false, false, false, false, false, false] rfl rfl (take_ofW HT_.out HW_.out (by kernel_rfl)) (fun _ _ _ h => h) (Or.inl ⟨by rfl, ?_⟩) hHeld ?_ ?_
                   rotate_left
                   ·rintro w' ⟨s0, s1, s2, s3, s4, s5, s6, s7, s8, s9, s10⟩
                    go_simp
                    with_reducible rfl
                   rotate_left
                   ·simp only [Act.put, List.setIfInBounds_toArray, List.set_cons_zero, List.set_cons_succ, i64_w, i32_w]
                    rfl
                   refine take_ (i := 13) (N := some 100) (v := ?_) (a' := ?_) #[true, true, true, true, true, true, true, true, true, true, true, true, true, true, true, false, false, false, false, false, false, false, false, false, false, false, false, false, false, false, false] rfl rfl (take_ofW HT_.out HW_.out (by kernel_rfl)) (fun _ _ _ h => h) (Or.inl ⟨by rfl, ?_⟩) hHeld ?_ ?_
                   rotate_left
                   ·rintro w' ⟨s0, s1, s2, s3, s4, s5, s6, s7, s8, s9, s10⟩
                    go_simp
                    with_reducible rfl
                   rotate_left
                   ·simp only [Act.put, List.setIfInBounds_toArray, List.set_cons_zero, List.set_cons_succ, i64_w, i32_w]
                    rfl
                   refine pure_ (i := 15) (N := some 102) (v := ?_) (a' := ?_) #[true, true, true, true, true, true, true, true, true, true, true, true, true, true, true, true, false, false, false, false, false, false, false, false, false, false, false, false, false, false, false] rfl rfl (any_of HT_.out (by kernel_rfl)) (fun _ _ _ h => h) (Or.inl ⟨by rfl, ?_⟩) ?_ ?_
                   rotate_left
                   ·intro w'
                    go_simp
                    with_reducible rfl
                   rotate_left
                   ·simp only [Act.put, List.setIfInBounds_toArray, List.set_cons_zero, List.set_cons_succ, i64_w, i32_w]
                    rfl
                   refine pure_ (i := 16) (N := some 103) (v := ?_) (a' := ?_) #[true, true, true, true, true, true, true, true, true, true, true, true, true, true, true, true, true, false, false, false, false, false, false, false, false, false, false, false, false, false, false] rfl rfl (any_of HT_.out (by kernel_rfl)) (fun _ _ _ h => h) (Or.inl ⟨by rfl, ?_⟩) ?_ ?_
                   rotate_left
                   ·intro w'
                    go_simp
                    with_reducible rfl
                   rotate_left
                   ·simp only [Act.put, List.setIfInBounds_toArray, List.set_cons_zero, List.set_cons_succ, i64_w, i32_w]
                    rfl
                   refine take_ (i := 17) (N := some 104) (v := ?_) (a' := ?_) #[true, true, true, true, true, true, true, true, true, true, true, true, true, true, true, true, true, true, false, false, false, false, false, false, false, false, false, false, false, false, false] rfl rfl (take_ofW HT_.out HW_.out (by kernel_rfl)) (fun _ _ _ h => h) (Or.inl ⟨by rfl, ?_⟩) hHeld ?_ ?_
                   rotate_left
                   ·rintro w' ⟨s0, s1, s2, s3, s4, s5, s6, s7, s8, s9, s10⟩
                    go_simp
                    with_reducible rfl
                   rotate_left
                   ·simp only [Act.put, List.setIfInBounds_toArray, List.set_cons_zero, List.set_cons_succ, i64_w, i32_w]
                    rfl
                   refine pure_ (i := 18) (N := some 105) (v := ?_) (a' := ?_) #[true, true, true, true, true, true, true, true, true, true, true, true, true, true, true, true, true, true, true, false, false, false, false, false, false, false, false, false, false, false, false] rfl rfl (any_of HT_.out (by kernel_rfl)) (fun _ _ _ h => h) (Or.inl ⟨by rfl, ?_⟩) ?_ ?_
                   rotate_left
                   ·intro w'
                    go_simp
                    with_reducible rfl
                   rotate_left
                   ·simp only [Act.put, List.setIfInBounds_toArray, List.set_cons_zero, List.set_cons_succ, i64_w, i32_w]
                    rfl
                   refine pure_ (i := 19) (N := some 106) (v := ?_) (a' := ?_) #[true, true, true, true, true, true, true, true, true, true, true, true, true, true, true, true, true, true, true, true, false, false, false, false, false, false, false, false, false, false, false] rfl rfl (any_of HT_.out (by kernel_rfl)) (fun _ _ _ h => h) (Or.inl ⟨by rfl, ?_⟩) ?_ ?_
                   rotate_left
                   ·intro w'
                    go_simp
                    with_reducible rfl
                   rotate_left
                   ·simp only [Act.put, List.setIfInBounds_toArray, List.set_cons_zero, List.set_cons_succ, i64_w, i32_w]
                    rfl
                   refine pure_ (i := 20) (N := some 107) (v := undef) (a' := ?_) #[true, true, true, true, true, true, true, true, true, true, true, true, true, true, true, true, true, true, true, true, true, false, false, false, false, false, false, false, false, false, false] rfl rfl (any_of HT_.out (by kernel_rfl)) (fun _ _ _ h => h) (Or.inr ⟨by rfl, rfl⟩) ?_ ?_
                   rotate_left
                   ·simp only [Act.put, List.setIfInBounds_toArray, List.set_cons_zero, List.set_cons_succ, i64_w, i32_w]
                    rfl
                   refine pure_ (i := 21) (N := some 108) (v := undef) (a' := ?_) #[true, true, true, true, true, true, true, true, true, true, true, true, true, true, true, true, true, true, true, true, true, true, false, false, false, false, false, false, false, false, false] rfl rfl (any_of HT_.out (by kernel_rfl)) (fun _ _ _ h => h) (Or.inr ⟨by rfl, rfl⟩) ?_ ?_
                   rotate_left
                   ·simp only [Act.put, List.setIfInBounds_toArray, List.set_cons_zero, List.set_cons_succ, i64_w, i32_w]
                    rfl
                   refine pure_ (i := 22) (N := some 109) (v := undef) (a' := ?_) #[true, true, true, true, true, true, true, true, true, true, true, true, true, true, true, true, true, true, true, true, true, true, true, false, false, false, false, false, false, false, false] rfl rfl (any_of HT_.out (by kernel_rfl)) (fun _ _ _ h => h) (Or.inr ⟨by rfl, rfl⟩) ?_ ?_
                   rotate_left
                   ·simp only [Act.put, List.setIfInBounds_toArray, List.set_cons_zero, List.set_cons_succ, i64_w, i32_w]
                    rfl
                   refine pure_ (i := 23) (N := some 110) (v := undef) (a' := ?_) #[true, true, true, true, true, true, true, true, true, true, true, true, true, true, true, true, true, true, true, true, true, true, true, true, false, false, false, false, false, false, false] rfl rfl (any_of HT_.out (by kernel_rfl)) (fun _ _ _ h => h) (Or.inr ⟨by rfl, rfl⟩) ?_ ?_
                   rotate_left
                   ·simp only [Act.put, List.setIfInBounds_toArray, List.set_cons_zero, List.set_cons_succ, i64_w, i32_w]
                    rfl
                   refine pure_ (i := 24) (N := some 111) (v := undef) (a' := ?_) #[true, true, true, true, true, true, true, true, true, true, true, true, true, true, true, true, true, true, true, true, true, true, true, true, true, false, false, false, false, false, false] rfl rfl (any_of HT_.out (by kernel_rfl)) (fun _ _ _ h => h) (Or.inr ⟨by rfl, rfl⟩) ?_ ?_
                   rotate_left
                   ·simp only [Act.put, List.setIfInBounds_toArray, List.set_cons_zero, List.set_cons_succ, i64_w, i32_w]
                    rfl
                   refine pure_ (i := 25) (N := some 112) (v := undef) (a' := ?_) #[true, true, true, true, true, true, true, true, true, true, true, true, true, true, true, true, true, true, true, true, true, true, true, true, true, true, false, false, false, false, false] rfl rfl (any_of HT_.out (by kernel_rfl)) (fun _ _ _ h => h) (Or.inr ⟨by rfl, rfl⟩) ?_ ?_
                   rotate_left
                   ·simp only [Act.put, List.setIfInBounds_toArray, List.set_cons_zero, List.set_cons_succ, i64_w, i32_w]
                    rfl
                   refine pure_ (i := 26) (N := some 113) (v := undef) (a' := ?_) #[true, true, true, true, true, true, true, true, true, true, true, true, true, true, true, true, true, true, true, true, true, true, true, true, true, true, true, false, false, false, false] rfl rfl (any_of HT_.out (by kernel_rfl)) (fun _ _ _ h => h) (Or.inr ⟨by rfl, rfl⟩) ?_ ?_
                   rotate_left
                   ·simp only [Act.put, List.setIfInBounds_toArray, List.set_cons_zero, List.set_cons_succ, i64_w, i32_w]
                    rfl
                   refine pure_ (i := 27) (N := some 114) (v := undef) (a' := ?_) #[true, true, true, true, true, true, true, true, true, true, true, true, true, true, true, true, true, true, true, true, true, true, true, true, true, true, true, true, false, false, false] rfl rfl (any_of HT_.out (by kernel_rfl)) (fun _ _ _ h => h) (Or.inr ⟨by rfl, rfl⟩) ?_ ?_
                   rotate_left
                   ·simp only [Act.put, List.setIfInBounds_toArray, List.set_cons_zero, List.set_cons_succ, i64_w, i32_w]
                    rfl
                   refine pure_ (i := 28) (N := some 115) (v := undef) (a' := ?_) #[true, true, true, true, true, true, true, true, true, true, true, true, true, true, true, true, true, true, true, true, true, true, true, true, true, true, true, true, true, false, false] rfl rfl (any_of HT_.out (by kernel_rfl)) (fun _ _ _ h => h) (Or.inr ⟨by rfl, rfl⟩) ?_ ?_
                   rotate_left
                   ·simp only [Act.put, List.setIfInBounds_toArray, List.set_cons_zero, List.set_cons_succ, i64_w, i32_w]
                    rfl
                   refine pure_ (i := 29) (N := some 116) (v := ?_) (a' := ?_) #[true, true, true, true, true, true, true, true, true, true, true, true, true, true, true, true, true, true, true, true, true, true, true, true, true, true, true, true, true, true, false] rfl rfl (any_of HT_.out (by kernel_rfl)) (fun _ _ _ h => h) (Or.inl ⟨by rfl, ?_⟩) ?_ ?_
                   rotate_left
                   ·intro w'
                    go_simp
                    with_reducible rfl
                   rotate_left
                   ·simp only [Act.put, List.setIfInBounds_toArray, List.set_cons_zero, List.set_cons_succ, i64_w, i32_w]
                    rfl
                   refine pure_ (i := 30) (N := some 117) (v := ?_) (a' := ?_) #[true, true, true, true, true, true, true, true, true, true, true, true, true, true, true, true, true, true, true, true, true, true, true, true, true, true, true, true, true, true, true] rfl rfl (any_of HT_.out (by kernel_rfl)) (fun _ _ _ h => h) (Or.inl ⟨by rfl, ?_⟩) ?_ ?_
                   rotate_left
                   ·intro w'
                    go_simp
                    with_reducible rfl
                   rotate_left
                   ·simp only [Act.put, List.setIfInBounds_toArray, List.set_cons_zero, List.set_cons_succ, i64_w, i32_w]
                    rfl
                   refine done_ (done_of HT_.out (by kernel_rfl)) ?_
                   try go_wp2
                   go_roundg k4
                   case measure => have := HJ2.out; have := HK2.out; have := HJ32.out; have := HK4.out; omega
                   case rel => exact ⟨(wrap64 (x9_4 + 1)), (by first | rfl | (simp; done) | (simp [*]; done)), H', ⟨by have := HJ2.out; have := HK2.out; have := HJ32.out; have := HK4.out; omega⟩, ⟨by (with_reducible repeat (first | apply Kd.V_alloc | apply Kd.V_drewN | apply Kd.V_drew)); exact Kd.V_mono HO_253001.out (fun _ hk => ⟨hk.1, hk.2.1⟩)⟩, ⟨by (with_reducible repeat (first | refine blk_drewN ?_ _ | refine blk_drew ?_ | refine blk_alloc ?_ _)); exact BK235.out⟩, ⟨by (with_reducible repeat (first | refine blk_drewN ?_ _ | refine blk_drew ?_ | refine blk_alloc ?_ _)); exact BK252.out⟩, ⟨by repeat (first | (with_reducible first | exact HB.out | apply below_alloc | apply pw_below_drewN | apply below_drew1 | refine below_set ?_ GE235.out | refine below_set ?_ GE252.out | refine below_set ?_ GE255.out) | exact HB.out)⟩⟩
                ·rw [if_neg c48] at H
                 exact absurd H (by simp)
               ·rw [if_neg c47] at H
                exact absurd H (by simp)
              ·rw [if_neg c46] at H
               exact absurd H (by simp)
             ·rw [if_neg c45] at H
              have c45b0 : decide (x9_4 < (l0_1.length : Int)) = false := decide_eq_false c45
              clear c45
              have H' := Aside0.mk H
              clear H
              have hnb84 := NB235_252.out
              have hnc84 := NB252_235.out
              have hcz85_0 : wr.cell? ⟨gb235, 0, none⟩ = some (.int .i64 a0_0) := (blk_cell BK235.out 0).trans rfl
              have hcz85_1 : wr.cell? ⟨gb235, 1, none⟩ = some (.slice A0_1 l0_1.length c0_1) := (blk_cell BK235.out 1).trans rfl
              have hfz85_0 := blk_frozen BK235.out 0
              have hfz85_1 := blk_frozen BK235.out 1
              go_wp2
              go_loopg [11] k4 (fun kq v11 w' => ∃ (x11_5 : Int), v11 = .int .i64 x11_5 ∧ Aside0 (tenterhooklaw16_QueueFirst.l2 kq t236 x11_5 a0_0 l0_1 t246 t247 = some r) ∧ Aside0 (kq ≤ k4) ∧ Aside0 (Kd.V k60 60 w' w.heap.size (fun k_ => k_ ≠ gb235 ∧ k_ ≠ gb252) (.slice Ao25 t247.length co25) t247) ∧ Aside0 (w'.heap[gb235]? = some (.cells #[.int .i64 a0_0, (.slice A0_1 l0_1.length c0_1)] 24 (0, 0))) ∧ Aside0 (w'.heap[gb252]? = some (.cells #[.int .i64 t246, (.slice Ao25 t247.length co25)] 29 (0, 0))) ∧ Aside0 (Below w.heap.size w w'))
              case atStart => exact ⟨(0), (by first | rfl | (simp; done) | (simp [*]; done)), H', ⟨Nat.le_refl _⟩, ⟨by (with_reducible repeat (first | apply Kd.V_alloc | apply Kd.V_drewN | apply Kd.V_drew)); exact HO_253001.out⟩, ⟨by (with_reducible repeat (first | refine blk_drewN ?_ _ | refine blk_drew ?_ | refine blk_alloc ?_ _)); exact BK235.out⟩, ⟨by (with_reducible repeat (first | refine blk_drewN ?_ _ | refine blk_drew ?_ | refine blk_alloc ?_ _)); exact BK252.out⟩, ⟨by repeat (first | (with_reducible first | exact HB.out | apply below_alloc | apply pw_below_drewN | apply below_drew1 | refine below_set ?_ GE235.out | refine below_set ?_ GE252.out) | exact HB.out)⟩⟩
              case round =>
               clear H'
               try clear p2
               try clear q2
               try clear hx2
               try clear c4
               try clear c5
               try clear p6
               try clear c7
               try clear c8
               try clear p25
               try clear q25
               try clear hx25
               try clear c45
               try clear c45b0
               try clear c46
               try clear c47
               try clear c48
               try clear c58
               try clear c58b0
               try clear c58b1
               try clear p64
               try clear c76
               try clear c79
               try clear c80
               try clear c84
               try clear hcz77_0
               try clear hcz77_1
               try clear hcz81_0
               try clear hcz81_1
               try clear hcz81_2
               try clear hcz85_0
               try clear hcz85_1
               try clear hfz77_0
               try clear hfz77_1
               try clear hfz81_0
               try clear hfz81_1
               try clear hfz81_2
               try clear hfz85_0
               try clear hfz85_1
               try clear hx254_0
               try clear hx254_1
               try clear hx254_2
               try clear hx256_0
               try clear hx256_1
               try clear hx256_2
               try clear hx257_0
               try clear hx257_1
               try clear hx257_2
               try clear hx258_0
               try clear hx258_1
               try clear hx258_2
               try clear p254
               try clear p256
               try clear p257
               try clear p258
               try clear q254
               try clear q256
               try clear q257
               try clear q258
               obtain ⟨x11_5, rfl, HA, HK5, HO_253001, BK235, BK252, HB⟩ := hrel
               cases gk with
               | zero => exact absurd HA.out (by simp [tenterhooklaw16_QueueFirst.l2])
               | succ k5 =>
                have H := HA.out
                clear HA
                simp only [tenterhooklaw16_QueueFirst.l2] at H
                by_cases c86 : x11_5 < (t247.length : Int)
                ·rw [if_pos c86] at H
                 have c86b0 : decide (x11_5 < (t247.length : Int)) = true := decide_eq_true c86
                 clear c86
                 replace H := Option.bind_eq_some_iff.mp H
                 obtain ⟨⟨t259, t260⟩, A870, H⟩ := H
                 replace H : (if 0 ≤ x11_5 then (if x11_5 < (t260.length : Int) then (if 0 ≤ (wrap64 (x11_5 + 1)) then (if (wrap64 (x11_5 + 1)) < (l0_1.length : Int) then (if (!(((rd_T34 t260 x11_5).f0) == ((rd_T34 l0_1 (wrap64 (x11_5 + 1))).f0)) || (!(((rd_T34 t260 x11_5).f1) == ((rd_T34 l0_1 (wrap64 (x11_5 + 1))).f1)) || (!(((rd_T34 t260 x11_5).f2) == ((rd_T34 l0_1 (wrap64 (x11_5 + 1))).f2))))) = true then (some false) else (tenterhooklaw16_QueueFirst.l2 k5 t236 (wrap64 (x11_5 + 1)) a0_0 l0_1 t246 t247)) else (none)) else (none)) else (none)) else (none)) = some r := H
                 have A87 := Aside0.mk A870
                 clear A870
                 by_cases c88 : 0 ≤ x11_5
                 ·rw [if_pos c88] at H
                  have c88b0 : decide (0 ≤ x11_5) = true := decide_eq_true c88
                  clear c88
                  by_cases c89 : x11_5 < (t260.length : Int)
                  ·rw [if_pos c89] at H
                   have c89b0 : decide (x11_5 < (t260.length : Int)) = true := decide_eq_true c89
                   clear c89
                   obtain ⟨ji90, hji90⟩ : ∃ j_ : Int, (wrap64 (x11_5 + 1)) = j_ := ⟨_, rfl⟩
                   replace H : (if 0 ≤ (ji90) then (if (ji90) < (l0_1.length : Int) then (if (!(((rd_T34 t260 x11_5).f0) == ((rd_T34 l0_1 (ji90)).f0)) || (!(((rd_T34 t260 x11_5).f1) == ((rd_T34 l0_1 (ji90)).f1)) || (!(((rd_T34 t260 x11_5).f2) == ((rd_T34 l0_1 (ji90)).f2))))) = true then (some false) else (tenterhooklaw16_QueueFirst.l2 k5 t236 ji90 a0_0 l0_1 t246 t247)) else (none)) else (none)) = some r := by first | (rw [hji90] at H; exact H) | (simp only [hji90] at H ⊢; exact H)
                   (try rw [hji90] at A87)
                   have hji90w : (IntKind.i64.wrap (x11_5 + 1)) = ji90 := (i64_w _).trans hji90
                   by_cases c91 : 0 ≤ (ji90)
                   ·rw [if_pos c91] at H
                    have c91b0 : decide (0 ≤ (ji90)) = true := decide_eq_true c91
                    clear c91
                    by_cases c92 : (ji90) < (l0_1.length : Int)
                    ·rw [if_pos c92] at H
                     have c92b0 : decide ((ji90) < (l0_1.length : Int)) = true := decide_eq_true c92
                     clear c92
                     by_cases c93 : (!(((rd_T34 t260 x11_5).f0) == ((rd_T34 l0_1 (ji90)).f0)) || (!(((rd_T34 t260 x11_5).f1) == ((rd_T34 l0_1 (ji90)).f1)) || (!(((rd_T34 t260 x11_5).f2) == ((rd_T34 l0_1 (ji90)).f2))))) = true
                     ·rw [if_pos c93] at H
                      exact absurd ((Option.some.inj H).trans hr) (by decide)
                     ·rw [if_neg c93] at H
                      have c93b0 : (!(((rd_T34 t260 x11_5).f0) == ((rd_T34 l0_1 (ji90)).f0)) || (!(((rd_T34 t260 x11_5).f1) == ((rd_T34 l0_1 (ji90)).f1)) || (!(((rd_T34 t260 x11_5).f2) == ((rd_T34 l0_1 (ji90)).f2))))) = false := by simpa using c93
                      clear c93
                      have H' := Aside0.mk H
                      clear H
                      have hnb99 := NB252_235.out
                      have hnc99 := NB235_252.out
                      have hcz100_0 : wr.cell? ⟨gb252, 0, none⟩ = some (.int .i64 t246) := (blk_cell BK252.out 0).trans rfl
                      have hcz100_1 : wr.cell? ⟨gb252, 1, none⟩ = some (.slice Ao25 t247.length co25) := (blk_cell BK252.out 1).trans rfl
                      have hfz100_0 := blk_frozen BK252.out 0
                      have hfz100_1 := blk_frozen BK252.out 1
                      try go_wp2
                      have n0_ := Aside0.mk (Kd.V_drew HO_253001.out)
                      have n1_ := Aside0.mk (blk_drew BK235.out)
                      have n2_ := Aside0.mk (blk_drew BK252.out)
                      have n3_ := Aside0.mk (below_drew1 HB.out)
                      clear HO_253001
                      clear BK235
                      clear BK252
                      clear HB
                      have HO_253001 := n0_
                      have BK235 := n1_
                      have BK252 := n2_
                      have HB := n3_
                      clear n0_ n1_ n2_ n3_
                      have p264 : 0 ≤ ((ji90) : Int) := of_decide_eq_true (by first | (with_reducible assumption) | assumption)
                      have q264 : (ji90) < (l0_1.length : Int) := of_decide_eq_true (by first | (with_reducible assumption) | assumption)
                      obtain ⟨ad264, e264, hx264_0, hx264_1, hx264_2⟩ := at_T34 HR0_1.out (ji90) p264 q264
                      have hw264_2 := hx264_2
                      have hw264_1 := hx264_1
                      have hw264_0 := hx264_0
                      cases e264
                      replace hx264_0 := (HB.out.cell (World.block_lt_of_cell? w _ hx264_0)).trans hx264_0
                      replace hx264_1 := (HB.out.cell (World.block_lt_of_cell? w _ hx264_1)).trans hx264_1
                      replace hx264_2 := (HB.out.cell (World.block_lt_of_cell? w _ hx264_2)).trans hx264_2
                      replace p264 := eq_true p264
                      replace q264 := eq_true q264
                      refine start_ (n := 13) (S := fun w' => w'.cell? ⟨gb252, 0, none⟩ = some (.int .i64 t246) ∧ w'.cell? ⟨gb252, 1, none⟩ = some (.slice Ao25 t247.length co25) ∧ w'.cell? ⟨gb235, 0, none⟩ = some (.int .i64 a0_0) ∧ w'.cell? ⟨gb235, 1, none⟩ = some (.slice (some ad264) l0_1.length c0_1) ∧ w'.cell? (ad264.add (((ji90)).toNat * 3)) = some (.int .i64 ((rd_T34 l0_1 (ji90)).f0)) ∧ w'.cell? ⟨(ad264.add (((ji90)).toNat * 3)).block, (ad264.add (((ji90)).toNat * 3)).off + 1, none⟩ = some (.int .i64 ((rd_T34 l0_1 (ji90)).f1)) ∧ w'.cell? ⟨(ad264.add (((ji90)).toNat * 3)).block, (ad264.add (((ji90)).toNat * 3)).off + 2, none⟩ = some (.int .i64 ((rd_T34 l0_1 (ji90)).f2))) (ds := []) #[false, false, false, false, false, false, false, false, false, false, false, false, false] (by kernel_rfl) rfl rfl ⟨(blk_cell BK252.out 0).trans rfl, (blk_cell BK252.out 1).trans rfl, (blk_cell BK235.out 0).trans rfl, (blk_cell BK235.out 1).trans rfl, ((HB.out.cell (World.block_lt_of_cell? w _ hw264_0)).trans hw264_0), ((HB.out.cell (World.block_lt_of_cell? w _ hw264_1)).trans hw264_1), ((HB.out.cell (World.block_lt_of_cell? w _ hw264_2)).trans hw264_2)⟩ (fun hHeld => ?_); refine with_tabW tenterhooklaw16_QueueFirst.tab24 tenterhooklaw16_QueueFirst.bits24 (fun HT_ HW_ => ?_)
                      generalize wr.drew = w101 at HO_253001 BK235 BK252 HB hx264_0 hx264_1 hx264_2 hHeld ⊢
                      refine pure_ (i := 3) (N := some 128) (v := ?_) (a' := ?_) #[false, false, false, true, false, false, false, false, false, false, false, false, false] rfl rfl (any_of HT_.out (by kernel_rfl)) (fun _ _ _ h => h) (Or.inl ⟨by rfl, ?_⟩) ?_ ?_
                      rotate_left
                      ·intro w'
                       go_simp
                       with_reducible rfl
                      rotate_left
                      ·simp only [Act.put, List.setIfInBounds_toArray, List.set_cons_zero, List.set_cons_succ, i64_w, i32_w]
                       rfl
                      refine pure_ (i := 6) (N := some 131) (v := ?_) (a' := ?_) #[false, false, false, true, false, false, true, false, false, false, false, false, false] rfl rfl (any_of HT_.out (by kernel_rfl)) (fun _ _ _ h => h) (Or.inl ⟨by rfl, ?_⟩) ?_ ?_
                      rotate_left
                      ·intro w'
                       go_simp
                       with_reducible rfl
                      rotate_left
                      ·simp only [Act.put, List.setIfInBounds_toArray, List.set_cons_zero, List.set_cons_succ, i64_w, i32_w]
                       rfl
                      refine pure_ (i := 8) (N := some 133) (v := ?_) (a' := ?_) #[false, false, false, true, false, false, true, false, true, false, false, false, false] rfl rfl (any_of HT_.out (by kernel_rfl)) (fun _ _ _ h => h) (Or.inl ⟨by rfl, ?_⟩) ?_ ?_
                      rotate_left
                      ·intro w'
                       go_simp
                       with_reducible rfl
                      rotate_left
                      ·simp only [Act.put, List.setIfInBounds_toArray, List.set_cons_zero, List.set_cons_succ, i64_w, i32_w]
                       rfl
                      refine pure_ (i := 9) (N := some 134) (v := ?_) (a' := ?_) #[false, false, false, true, false, false, true, false, true, true, false, false, false] rfl rfl (any_of HT_.out (by kernel_rfl)) (fun _ _ _ h => h) (Or.inl ⟨by rfl, ?_⟩) ?_ ?_
                      rotate_left
                      ·intro w'
                       go_simp
                       with_reducible rfl
                      rotate_left
                      ·simp only [Act.put, List.setIfInBounds_toArray, List.set_cons_zero, List.set_cons_succ, i64_w, i32_w]
                       rfl
                      refine take_ (i := 0) (N := some 125) (v := ?_) (a' := ?_) #[true, false, false, true, false, false, true, false, true, true, false, false, false] rfl rfl (take_ofW HT_.out HW_.out (by kernel_rfl)) (fun _ _ _ h => h) (Or.inl ⟨by rfl, ?_⟩) hHeld ?_ ?_
                      rotate_left
                      ·rintro w' ⟨s0, s1, s2, s3, s4, s5, s6⟩
                       go_simp
                       with_reducible rfl
                      rotate_left
                      ·simp only [Act.put, List.setIfInBounds_toArray, List.set_cons_zero, List.set_cons_succ, i64_w, i32_w]
                       rfl
                      refine take_ (i := 7) (N := some 132) (v := ?_) (a' := ?_) #[true, false, false, true, false, false, true, true, true, true, false, false, false] rfl rfl (take_ofW HT_.out HW_.out (by kernel_rfl)) (fun _ _ _ h => h) (Or.inl ⟨by rfl, ?_⟩) hHeld ?_ ?_
                      rotate_left
                      ·rintro w' ⟨s0, s1, s2, s3, s4, s5, s6⟩
                       go_simp
                       with_reducible rfl
                      rotate_left
                      ·simp only [Act.put, List.setIfInBounds_toArray, List.set_cons_zero, List.set_cons_succ, i64_w, i32_w]
                       rfl
                      refine pure_ (i := 10) (N := some 135) (v := ?_) (a' := ?_) #[true, false, false, true, false, false, true, true, true, true, true, false, false] rfl rfl (any_of HT_.out (by kernel_rfl)) (fun _ _ _ h => h) (Or.inl ⟨by rfl, ?_⟩) ?_ ?_
                      rotate_left
                      ·intro w'
                       go_simp
                       with_reducible rfl
                      rotate_left
                      ·simp only [Act.put, List.setIfInBounds_toArray, List.set_cons_zero, List.set_cons_succ, i64_w, i32_w]
                       rfl
                      refine take_ (i := 11) (N := some 136) (v := ?_) (a' := ?_) #[true, false, false, true, false, false, true, true, true, true, true, true, false] rfl rfl (take_ofW HT_.out HW_.out (by kernel_rfl)) (fun _ _ _ h => h) (Or.inl ⟨by rfl, ?_⟩) hHeld ?_ ?_
                      rotate_left
                      ·rintro w' ⟨s0, s1, s2, s3, s4, s5, s6⟩
                       go_simp
                       with_reducible rfl
                      rotate_left
                      ·simp only [Act.put, List.setIfInBounds_toArray, List.set_cons_zero, List.set_cons_succ, i64_w, i32_w]
                       rfl
                      refine one_ (i := 1) (N := some 126) #[true, true, false, true, false, false, true, true, true, true, true, true, false] rfl rfl (one_of HT_.out (by kernel_rfl)) (by decide) (fun K hK => ?_)
                      refine goes_ Try.func12 (by kernel_rfl) rfl #[.agg #[.int .i64 t246, .slice Ao25 t247.length co25]] (by rfl) rfl rfl (by (try simp only [List.map_toArray, List.map_cons, List.map_nil]); first | done | rfl | (simp only [List.length_drop, List.length_take]; rfl)) ?_
                      with_reducible refine (tenterhooklaw16_lined.calls k5 t246 _ _ t247 t259 t260 _ ?side1 ?side2 A87.out).mono ?_
                      (case side1 => repeat (first | exact (Kd.V_reads' HO_253001.out).2.2 | (with_reducible refine Kd.C_alloc ?_ _) | (with_reducible refine Kd.C_drewN ?_ _) | (with_reducible refine Kd.C_drew ?_)))
                      (case side2 => exact (Kd.V_reads' HO_253001.out).2.1)
                      rintro e w102 ⟨v261, rfl, ho0, hb⟩
                      refine ⟨_, rfl, ?_⟩
                      have n0_ := Aside0.mk (Kd.V_elder' (by (with_reducible repeat (first | apply Kd.V_alloc | apply Kd.V_drewN | apply Kd.V_drew)); exact HO_253001.out) (Kd.R_base ho0) hb)
                      have n1_ := Aside0.mk (Kd.R_lower ho0 (below_size (by repeat (first | (with_reducible first | exact HB.out | apply below_alloc | apply pw_below_drewN | apply below_drew1 | refine below_set ?_ GE235.out | refine below_set ?_ GE252.out) | exact HB.out))))
                      have n2_ := Aside0.mk (blk_below (g := gb235) (o := .cells #[.int .i64 a0_0, .slice (some ad264) l0_1.length c0_1] 24 (0, 0)) (by (with_reducible repeat (first | refine blk_drewN ?_ _ | refine blk_drew ?_ | refine blk_alloc ?_ _)); exact BK235.out) hb)
                      have n3_ := Aside0.mk (blk_below (g := gb252) (o := .cells #[.int .i64 t246, .slice Ao25 t247.length co25] 29 (0, 0)) (by (with_reducible repeat (first | refine blk_drewN ?_ _ | refine blk_drew ?_ | refine blk_alloc ?_ _)); exact BK252.out) hb)
                      have n4_ := Aside0.mk (below_step (by repeat (first | (with_reducible first | exact HB.out | apply below_alloc | apply pw_below_drewN | apply below_drew1 | refine below_set ?_ GE235.out | refine below_set ?_ GE252.out) | exact HB.out)) hb)
                      clear HO_253001
                      clear BK235
                      clear BK252
                      clear HB
                      have HO_253001 := n0_
                      have HO262 := n1_
                      have BK235 := n2_
                      have BK252 := n3_
                      have HB := n4_
                      clear n0_ n1_ n2_ n3_ n4_
                      (try clear hb)
                      (try clear hb2)
                      (try clear hk)
                      (try clear hi)
                      (try clear ho0)
                      obtain ⟨Ao103, co103, eo103⟩ := Kd.R_slice HO262.out
                      (first | subst eo103 | (injection eo103 with f1_ f2_ f3_; have f4_ := f1_.symm; have f5_ := f3_.symm; clear f1_ f2_ f3_; subst f4_; subst f5_))
                      have p263 : 0 ≤ (x11_5 : Int) := of_decide_eq_true (by first | (with_reducible assumption) | assumption)
                      have q263 : x11_5 < (t260.length : Int) := of_decide_eq_true (by first | (with_reducible assumption) | assumption)
                      obtain ⟨ad263, e263, hx263_0, hx263_1, hx263_2⟩ := at_T34 (Kd.R_reads' HO262.out).2.2 x11_5 p263 q263
                      cases e263
                      replace p263 := eq_true p263
                      replace q263 := eq_true q263
                      refine hK.out _ _ ⟨(blk_cell BK252.out 0).trans rfl, (blk_cell BK252.out 1).trans rfl, (blk_cell BK235.out 0).trans rfl, (blk_cell BK235.out 1).trans rfl, ((HB.out.cell (World.block_lt_of_cell? w _ hw264_0)).trans hw264_0), ((HB.out.cell (World.block_lt_of_cell? w _ hw264_1)).trans hw264_1), ((HB.out.cell (World.block_lt_of_cell? w _ hw264_2)).trans hw264_2)⟩ (fun hHeld => ?_)
                      clear hK K
                      refine norm_ (a' := ?_) ?_ ?_
                      rotate_left
                      ·show Act.put _ (some 126) _ = _
                       simp only [Act.put, List.setIfInBounds_toArray, List.set_cons_zero, List.set_cons_succ, i64_w, i32_w]
                       rfl
                      refine pure_ (i := 2) (N := some 127) (v := ?_) (a' := ?_) #[true, true, true, true, false, false, true, true, true, true, true, true, false] rfl rfl (any_of HT_.out (by kernel_rfl)) (fun _ _ _ h => h) (Or.inl ⟨by rfl, ?_⟩) ?_ ?_
                      rotate_left
                      ·intro w'
                       go_simp
                       with_reducible rfl
                      rotate_left
                      ·simp only [Act.put, List.setIfInBounds_toArray, List.set_cons_zero, List.set_cons_succ, i64_w, i32_w]
                       rfl
                      refine pure_ (i := 4) (N := some 129) (v := ?_) (a' := ?_) #[true, true, true, true, true, false, true, true, true, true, true, true, false] rfl rfl (any_of HT_.out (by kernel_rfl)) (fun _ _ _ h => h) (Or.inl ⟨by rfl, ?_⟩) ?_ ?_
                      rotate_left
                      ·intro w'
                       go_simp
                       with_reducible rfl
                      rotate_left
                      ·simp only [Act.put, List.setIfInBounds_toArray, List.set_cons_zero, List.set_cons_succ, i64_w, i32_w]
                       rfl
                      refine one_ (i := 5) (N := some 130) #[true, true, true, true, true, true, true, true, true, true, true, true, false] rfl rfl (one_of HT_.out (by kernel_rfl)) (by decide) (fun K hK => ?_)
                      refine value_ (w1 := _) (v := .agg #[.int .i64 (rd_T34 t260 x11_5).f0, .int .i64 (rd_T34 t260 x11_5).f1, .int .i64 (rd_T34 t260 x11_5).f2]) (by rfl) rfl (by go_simp; try rfl) ?_
                      refine hK.out _ _ hHeld (fun hHeld => ?_)
                      clear hK K
                      refine norm_ (a' := ?_) ?_ ?_
                      rotate_left
                      ·show Act.put _ (some 130) _ = _
                       simp only [Act.put, List.setIfInBounds_toArray, List.set_cons_zero, List.set_cons_succ, i64_w, i32_w]
                       rfl
                      refine pure_ (i := 12) (N := some 137) (v := ?_) (a' := ?_) #[true, true, true, true, true, true, true, true, true, true, true, true, true] rfl rfl (any_of HT_.out (by kernel_rfl)) (fun _ _ _ h => h) (Or.inl ⟨by rfl, ?_⟩) ?_ ?_
                      rotate_left
                      ·intro w'
                       go_simp
                       with_reducible rfl
                      rotate_left
                      ·simp only [Act.put, List.setIfInBounds_toArray, List.set_cons_zero, List.set_cons_succ, i64_w, i32_w]
                       rfl
                      refine done_ (done_of HT_.out (by kernel_rfl)) ?_
                      try go_wp2
                      go_roundg k5
                      case measure => have := HJ2.out; have := HK2.out; have := HJ32.out; have := HK4.out; have := HK5.out; omega
                      case rel => exact ⟨(ji90), (by first | rfl | (simp; done) | (simp only [← hji90] <;> (first | rfl | simp)) | (simp [*]; done)), H', ⟨by have := HJ2.out; have := HK2.out; have := HJ32.out; have := HK4.out; have := HK5.out; omega⟩, ⟨by (with_reducible repeat (first | apply Kd.V_alloc | apply Kd.V_drewN | apply Kd.V_drew)); exact Kd.V_mono HO_253001.out (fun _ hk => ⟨hk.1.1, hk.1.2⟩)⟩, ⟨by (with_reducible repeat (first | refine blk_drewN ?_ _ | refine blk_drew ?_ | refine blk_alloc ?_ _)); exact BK235.out⟩, ⟨by (with_reducible repeat (first | refine blk_drewN ?_ _ | refine blk_drew ?_ | refine blk_alloc ?_ _)); exact BK252.out⟩, ⟨by repeat (first | (with_reducible first | exact HB.out | apply below_alloc | apply pw_below_drewN | apply below_drew1 | refine below_set ?_ GE235.out | refine below_set ?_ GE252.out) | exact HB.out)⟩⟩
                    ·rw [if_neg c92] at H
                     exact absurd H (by simp)
                   ·rw [if_neg c91] at H
                    exact absurd H (by simp)
                  ·rw [if_neg c89] at H
                   exact absurd H (by simp)
                 ·rw [if_neg c88] at H
                  exact absurd H (by simp)
                ·rw [if_neg c86] at H
                 have c86b0 : decide (x11_5 < (t247.length : Int)) = false := decide_eq_false c86
                 clear c86
                 obtain rfl := Option.some.inj H
                 have hnb104 := NB252_235.out
                 have hnc104 := NB235_252.out
                 have hcz105_0 : wr.cell? ⟨gb252, 0, none⟩ = some (.int .i64 t246) := (blk_cell BK252.out 0).trans rfl
                 have hcz105_1 : wr.cell? ⟨gb252, 1, none⟩ = some (.slice Ao25 t247.length co25) := (blk_cell BK252.out 1).trans rfl
                 have hfz105_0 := blk_frozen BK252.out 0
                 have hfz105_1 := blk_frozen BK252.out 1
                 go_wp2
                 go_ret
                 exact ⟨by first | rfl | (simp [errW_none, errW_some] <;> rfl) | (simp [*, errW_none, errW_some] <;> rfl), by repeat (first | (with_reducible first | exact HB.out | apply below_alloc | apply pw_below_drewN | apply below_drew1 | refine below_set ?_ GE235.out | refine below_set ?_ GE252.out) | exact HB.out)⟩
    ·replace c17 := Bool.eq_false_iff.mpr c17
     subst c17
     have H1 : (if t236 = true then (some ((l0_1.length : Int) == 0)) else (some false)) = some r := by rw [if_neg (show ¬ (false = true) by decide)] at H; exact H
     clear H
     have H := H1
     clear H1
     by_cases c106 : t236 = true
     ·subst c106
      have H1 : (some ((l0_1.length : Int) == 0)) = some r := by rw [if_pos rfl] at H; exact H
      clear H
      have H := H1
      clear H1
      obtain rfl := Option.some.inj H
      have hcz107_0 : wc.cell? ⟨gb235, 0, none⟩ = some (.int .i64 a0_0) := (blk_cell BK235.out 0).trans rfl
      have hcz107_1 : wc.cell? ⟨gb235, 1, none⟩ = some (.slice A0_1 l0_1.length c0_1) := (blk_cell BK235.out 1).trans rfl
      have hfz107_0 := blk_frozen BK235.out 0
      have hfz107_1 := blk_frozen BK235.out 1
      go_wp2_with (first | ((with_reducible refine gate_callee (f := 10) rfl ?_); refine goesL_ (some 26) rfl rfl Try.func10 (by kernel_rfl) rfl #[.agg #[.int .i64 a0_0, .slice A0_1 l0_1.length c0_1]] rfl (by (try simp only [List.map_toArray, List.map_cons, List.map_nil]); first | done | rfl | (simp only [List.length_drop, List.length_take]; rfl)) ?_; (with_reducible refine (tenterhooklaw16_line.calls kj2 a0_0 _ _ l0_1 t242 t243 _ ?side1 ?side2 A15.out).mono ?_); (case side1 => repeat (first | exact (Kd.C_below HR0_1.out HB.out) | (with_reducible refine Kd.C_alloc ?_ _) | (with_reducible refine Kd.C_drewN ?_ _) | (with_reducible refine Kd.C_drew ?_))); (case side2 => exact HC0_1.out); rintro e w108 ⟨v244, rfl, ho0, hb⟩; clear A15; refine ⟨_, rfl, ?_⟩; have n0_ := Aside0.mk (Kd.R_lower ho0 (below_size (by repeat (first | (with_reducible first | exact HB.out | apply below_alloc | apply pw_below_drewN | apply below_drew1 | refine below_set ?_ GE235.out) | exact HB.out)))); have n1_ := Aside0.mk (blk_below (g := gb235) (o := .cells #[.int .i64 a0_0, .slice A0_1 l0_1.length c0_1] 24 (0, 0)) (by (with_reducible repeat (first | refine blk_drewN ?_ _ | refine blk_drew ?_ | refine blk_alloc ?_ _)); exact BK235.out) hb); have n2_ := Aside0.mk (below_step (by repeat (first | (with_reducible first | exact HB.out | apply below_alloc | apply pw_below_drewN | apply below_drew1 | refine below_set ?_ GE235.out) | exact HB.out)) hb); clear BK235; clear HB; have HO245 := n0_; have BK235 := n1_; have HB := n2_; clear n0_ n1_ n2_; (try clear hb); (try clear hb2); (try clear hk); (try clear hi); (try clear ho0); obtain ⟨Ao109, co109, eo109⟩ := Kd.R_slice HO245.out; subst eo109) | ((with_reducible refine gate_callee (f := 11) rfl ?_); refine goesL_ (some 27) rfl rfl Try.func11 (by kernel_rfl) rfl #[.agg #[.int .i64 t242, .slice Ao109 t243.length co109]] rfl (by (try simp only [List.map_toArray, List.map_cons, List.map_nil]); first | done | rfl | (simp only [List.length_drop, List.length_take]; rfl)) ?_; (with_reducible refine (queue_Take.calls kj2 t242 (fun k_ => some k_ = (.slice Ao109 t243.length co109 : Value).ownBlock) _ _ t243 t246 t247 t250 false _ ?side1 A16.out).mono ?_); (case side1 => exact Kd.R_V (Kd.R_tight rfl (Kd.R_types (HO245.out) BK235.out (by decide)))); rintro e w110 ⟨v248, rfl, ho0, hb⟩; clear A16; refine ⟨_, rfl, ?_⟩; have n0_ := Aside0.mk (Kd.R_below (by (with_reducible repeat (first | apply Kd.R_alloc | apply Kd.R_drewN | apply Kd.R_drew)); exact HO245.out) hb); have n1_ := Aside0.mk (Kd.V_lower (Kd.V_mono (ok' := fun k_ => k_ ≠ gb235) ho0 (fun k_ hk_ => Or.elim hk_ (fun hs_ => ((Kd.R_types (HO245.out) BK235.out (by decide)).1 k_ hs_.symm).2) (fun hn_ => (Kd.freshB (g := gb235) (o := .cells #[.int .i64 a0_0, .slice A0_1 l0_1.length c0_1] 24 (0, 0)) (by (with_reducible repeat (first | refine blk_drewN ?_ _ | refine blk_drew ?_ | refine blk_alloc ?_ _)); exact BK235.out) k_ hn_)))) (below_size (by repeat (first | (with_reducible first | exact HB.out | apply below_alloc | apply pw_below_drewN | apply below_drew1 | refine below_set ?_ GE235.out) | exact HB.out)))); have n2_ := Aside0.mk (blk_below (g := gb235) (o := .cells #[.int .i64 a0_0, .slice A0_1 l0_1.length c0_1] 24 (0, 0)) (by (with_reducible repeat (first | refine blk_drewN ?_ _ | refine blk_drew ?_ | refine blk_alloc ?_ _)); exact BK235.out) hb); have n3_ := Aside0.mk (below_step (by repeat (first | (with_reducible first | exact HB.out | apply below_alloc | apply pw_below_drewN | apply below_drew1 | refine below_set ?_ GE235.out) | exact HB.out)) hb); clear HO245; clear BK235; clear HB; have HO245 := n0_; have HO249 := n1_; have BK235 := n2_; have HB := n3_; clear n0_ n1_ n2_ n3_; (try clear hb); (try clear hb2); (try clear hk); (try clear hi); (try clear ho0)) | ((with_reducible refine gate_dst (N := 4) rfl ?_); (try (refine gate_guard (by rfl) ?_; dsimp only)); refine box_event ?hg (N := 4) ?hd (cs := #[.int .i64 0, .slice none 0 0]) (t := 29) ?hr ?_; (case hd => rfl); (case hg => rfl); (case hr => first | (go_simp; done) | (go_simp; rfl)); intro gb252 hg w111 hbox hb; have n0_ := Aside0.mk (Kd.R_below (by (with_reducible repeat (first | apply Kd.R_alloc | apply Kd.R_drewN | apply Kd.R_drew)); exact HO245.out) hb); have n1_ := Aside0.mk (Kd.V_below (Kd.V_elderB (by (with_reducible repeat (first | apply Kd.V_alloc | apply Kd.V_drewN | apply Kd.V_drew)); exact HO249.out) gb252 (Nat.le_of_eq hg.symm)) hb); have n2_ := Aside0.mk (blk_below (g := gb235) (o := .cells #[.int .i64 a0_0, .slice A0_1 l0_1.length c0_1] 24 (0, 0)) (by (with_reducible repeat (first | refine blk_drewN ?_ _ | refine blk_drew ?_ | refine blk_alloc ?_ _)); exact BK235.out) hb); have n3_ := Aside0.mk (below_step (by repeat (first | (with_reducible first | exact HB.out | apply below_alloc | apply pw_below_drewN | apply below_drew1 | refine below_set ?_ GE235.out) | exact HB.out)) hb); have n4_ := Aside0.mk (hbox); have n5_ := Aside0.mk ((by rw [hg]; exact (below_size (by repeat (first | (with_reducible first | exact HB.out | apply below_alloc | apply pw_below_drewN | apply below_drew1 | refine below_set ?_ GE235.out) | exact HB.out))) : w.heap.size ≤ gb252)); have n6_ := Aside0.mk ((by rw [hg]; exact (below_size (by repeat (first | (with_reducible first | exact HB.out | apply below_alloc | apply pw_below_drewN | apply below_drew1 | refine below_set ?_ GE235.out) | exact HB.out))) : w.heap.size ≤ gb252)); have n7_ := Aside0.mk ((by rw [hg]; exact Nat.ne_of_lt (blk_lt (g := gb235) (o := .cells #[.int .i64 a0_0, .slice A0_1 l0_1.length c0_1] 24 (0, 0)) (by (with_reducible repeat (first | refine blk_drewN ?_ _ | refine blk_drew ?_ | refine blk_alloc ?_ _)); exact BK235.out)) : gb235 ≠ gb252)); have n8_ := Aside0.mk ((by rw [hg]; exact Nat.ne_of_gt (blk_lt (g := gb235) (o := .cells #[.int .i64 a0_0, .slice A0_1 l0_1.length c0_1] 24 (0, 0)) (by (with_reducible repeat (first | refine blk_drewN ?_ _ | refine blk_drew ?_ | refine blk_alloc ?_ _)); exact BK235.out)) : gb252 ≠ gb235)); clear HO245; clear HO249; clear BK235; clear HB; have HO245 := n0_; have HO249 := n1_; have BK235 := n2_; have HB := n3_; have BK252 := n4_; have GW252 := n5_; have GE252 := n6_; have NB235_252 := n7_; have NB252_235 := n8_; clear n0_ n1_ n2_ n3_ n4_ n5_ n6_ n7_ n8_; clear hb hbox hg; have hnb112 := NB252_235.out; have hnc112 := NB235_252.out; have hcz113_0 : w111.cell? ⟨gb252, 0, none⟩ = some (.int .i64 0) := (blk_cell BK252.out 0).trans rfl; have hcz113_1 : w111.cell? ⟨gb252, 1, none⟩ = some (.slice none 0 0) := (blk_cell BK252.out 1).trans rfl; have hfz113_0 := blk_frozen BK252.out 0; have hfz113_1 := blk_frozen BK252.out 1; obtain ⟨Ao114, co114, eo114⟩ := Kd.V_slice HO249.out; subst eo114; have hcz115_0 : w111.cell? ⟨gb235, 0, none⟩ = some (.int .i64 a0_0) := (blk_cell BK235.out 0).trans rfl; have hcz115_1 : w111.cell? ⟨gb235, 1, none⟩ = some (.slice A0_1 l0_1.length c0_1) := (blk_cell BK235.out 1).trans rfl; have hfz115_0 := blk_frozen BK235.out 0; have hfz115_1 := blk_frozen BK235.out 1))
      go_ret
      exact ⟨by first | rfl | (simp [errW_none, errW_some] <;> rfl) | (simp [*, errW_none, errW_some] <;> rfl), by repeat (first | (with_reducible first | exact HB.out | apply below_alloc | apply pw_below_drewN | apply below_drew1 | refine below_set ?_ GE235.out | refine below_set ?_ GE252.out) | exact HB.out)⟩
     ·replace c106 := Bool.eq_false_iff.mpr c106
      subst c106
      have H1 : (some false) = some r := by rw [if_neg (show ¬ (false = true) by decide)] at H; exact H
      clear H
      have H := H1
      exact absurd ((Option.some.inj H).trans hr) (by decide)
end Go.Proofs.Ytnlnojolodnheaa.P
