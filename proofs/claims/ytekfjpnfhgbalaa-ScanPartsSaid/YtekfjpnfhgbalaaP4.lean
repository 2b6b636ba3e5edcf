-- Written by a program of this session (xprint.py, asm.py).
import Derived.Test.YtekfjpnfhgbalaaP0
import Derived.Test.YtekfjpnfhgbalaaP1
import Derived.Test.YtekfjpnfhgbalaaP3
import Derived.Test.YtekfjpnfhgbalaaX
import Derived.Test.YtekfjpnfhgbalaaU1
import Derived.Test.YtekfjpnfhgbalaaL3
namespace Go.Proofs.Ytekfjpnfhgbalaa.P
open Go.Proofs.YtekfjpnfhgbalaaX Go.RowKit Go.Proofs.YtekfjpnfhgbalaaW.PrintWords Go.Proofs.YtekfjpnfhgbalaaW.PrintLast Go.Proofs.YtekfjpnfhgbalaaW.PrintMore
attribute [local go_sem] max2_int min2_int max_two min_two max_three min_three max_four min_four   -- for this text's walks alone

set_option linter.unusedVariables false
set_option linter.unusedSimpArgs false

/-! ### tenterhooklaw06_ScanParts: function 5 -/
def tenterhooklaw06_ScanParts.l0 : Nat → Int → Bool → ByteArray → ByteArray → ByteArray → Int → Option (Bool)
  | 0, _, _, _, _, _, _ => none
  | k + 1, x2, x7, x9, x10, x12, x13 => if x13 < (x10.size : Int) then (if 0 ≤ x13 then (if (bt x10 x13) = x2 then (some false) else (if x2 = 32 then (if (bt x10 x13) < 32 then (some false) else (tenterhooklaw06_ScanParts.l0 k x2 x7 x9 x10 x12 (wrap64 (x13 + 1)))) else (tenterhooklaw06_ScanParts.l0 k x2 x7 x9 x10 x12 (wrap64 (x13 + 1))))) else (none)) else (if (wrap64 ((x10.size : Int) + (x12.size : Int))) = (x9.size : Int) then (if x7 = true then (if x10.toList = x9.toList then (some (x12.toList == ([] : List UInt8))) else (some false)) else (some false)) else (if x7 = true then (if (wrap64 ((wrap64 ((x10.size : Int) + 1)) + (x12.size : Int))) = (x9.size : Int) then (if 0 ≤ (x10.size : Int) then (if (x10.size : Int) ≤ (x9.size : Int) then (if (x9.extract 0 ((x10.size : Int) : Int).toNat).toList = x10.toList then (if 0 ≤ (wrap64 ((x10.size : Int) + 1)) then (if (wrap64 ((x10.size : Int) + 1)) ≤ (x9.size : Int) then (if (x9.extract ((wrap64 ((x10.size : Int) + 1)) : Int).toNat x9.size).toList = x12.toList then (if (x10.size : Int) < (x9.size : Int) then (if (bt x9 (x10.size : Int)) = x2 then (some true) else (if x2 = 32 then (some (decide ((bt x9 (x10.size : Int)) < 32))) else (some false))) else (none)) else (some false)) else (none)) else (none)) else (some false)) else (none)) else (none)) else (some false)) else (some false)))
def tenterhooklaw06_ScanParts.f (k : Nat) (a0 : ByteArray) (a1 : Int) (a2 : Int) : Option (Bool) := (tenterhooklaw06_awake.f k).bind fun t178 => (if (a0.size : Int) > 1000 then (some t178) else ((scan_Left.f a0 a1).bind fun t180 => ((scan_Parse.f k a0 a1 (wrap64 (a2))).bind fun bt181 => ((scan_Left.f bt181.2.1 bt181.2.2).bind fun t185 => (tenterhooklaw06_ScanParts.l0 k a2 t178 t180 bt181.1 t185 0)))))
theorem tenterhooklaw06_ScanParts.mono_l : ∀ k, (∀ y0 y1 y2 y3 y4 y5, LeO (tenterhooklaw06_ScanParts.l0 k y0 y1 y2 y3 y4 y5) (tenterhooklaw06_ScanParts.l0 (k + 1) y0 y1 y2 y3 y4 y5))
  | 0 => fun _ _ _ _ _ _ r h => by simp [tenterhooklaw06_ScanParts.l0] at h
  | k + 1 => by
    have ih0 := tenterhooklaw06_ScanParts.mono_l k
    · intro y0 y1 y2 y3 y4 y5
      unfold tenterhooklaw06_ScanParts.l0
      repeat' first
      | (with_reducible exact ih0 _ _ _ _ _ _)
      | (with_reducible exact scan_Parse.mono _ _ _ _)
      | (with_reducible exact tenterhooklaw06_awake.mono _)
      | (with_reducible exact LeO.refl _)
      | (with_reducible exact LeO.none _)
      | (with_reducible refine LeO.ite ?_ ?_)
      | (with_reducible refine LeO.bind ?_ (fun _ => ?_))
      | exact ih0 _ _ _ _ _ _
      | exact scan_Parse.mono _ _ _ _
      | exact tenterhooklaw06_awake.mono _
      | exact LeO.none _
      | refine LeO.ite ?_ ?_
      | refine LeO.bind ?_ (fun _ => ?_)
theorem tenterhooklaw06_ScanParts.mono : ∀ a0 a1 a2 k, LeO (tenterhooklaw06_ScanParts.f k a0 a1 a2) (tenterhooklaw06_ScanParts.f (k + 1) a0 a1 a2) := by
  intro a0 a1 a2 k
  have ih0 := tenterhooklaw06_ScanParts.mono_l k
  unfold tenterhooklaw06_ScanParts.f
  repeat' first
      | (with_reducible exact ih0 _ _ _ _ _ _)
      | (with_reducible exact scan_Parse.mono _ _ _ _)
      | (with_reducible exact tenterhooklaw06_awake.mono _)
      | (with_reducible exact LeO.refl _)
      | (with_reducible exact LeO.none _)
      | (with_reducible refine LeO.ite ?_ ?_)
      | (with_reducible refine LeO.bind ?_ (fun _ => ?_))
      | exact ih0 _ _ _ _ _ _
      | exact scan_Parse.mono _ _ _ _
      | exact tenterhooklaw06_awake.mono _
      | exact LeO.none _
      | refine LeO.ite ?_ ?_
      | refine LeO.bind ?_ (fun _ => ?_)
set_option maxHeartbeats 8000000 in
set_option maxRecDepth 100000 in
theorem tenterhooklaw06_ScanParts.calls_true (k : Nat) (a0 : ByteArray) (a1 : Int) (a2 : Int) (r : Bool) (w : World) (hr : r = true) (h : tenterhooklaw06_ScanParts.f k a0 a1 a2 = some r) :
    Calls Try.prog 5 #[.string a0, .int .i64 a1, .int .u8 a2] w fun e w' => e = .returned (.bool r) ∧ Below w.heap.size w w' := by
  have hu25 := Try.underlying25
  have HB := Aside0.mk (Below.refl w.heap.size w)
  have H : ((tenterhooklaw06_awake.f k).bind fun t178 => (if (a0.size : Int) > 1000 then (some t178) else ((scan_Left.f a0 a1).bind fun t180 => ((scan_Parse.f k a0 a1 (wrap64 (a2))).bind fun bt181 => ((scan_Left.f bt181.2.1 bt181.2.2).bind fun t185 => (tenterhooklaw06_ScanParts.l0 k a2 t178 t180 bt181.1 t185 0)))))) = some r := h
  clear h
  replace H := Option.bind_eq_some_iff.mp H
  obtain ⟨t178, A40, H⟩ := H
  replace H : (if (a0.size : Int) > 1000 then (some t178) else ((scan_Left.f a0 a1).bind fun t180 => ((scan_Parse.f k a0 a1 (wrap64 (a2))).bind fun bt181 => ((scan_Left.f bt181.2.1 bt181.2.2).bind fun t185 => (tenterhooklaw06_ScanParts.l0 k a2 t178 t180 bt181.1 t185 0))))) = some r := H
  have A4 := Aside0.mk A40
  clear A40
  by_cases c5 : (a0.size : Int) > 1000
  · rw [if_pos c5] at H
    have c5b0 : decide (1000 < (a0.size : Int)) = true := decide_eq_true c5
    have c5b1 : decide (1000 < a0.size) = true := decide_eq_true (by omega)
    clear c5
    obtain rfl := Option.some.inj H
    go_enter Try.func5, Try.ntmps5
    go_wp2_with (first | ((with_reducible refine gate_callee (f := 7) rfl ?_); refine goesL_ (some 14) rfl rfl Try.func7 (by kernel_rfl) rfl #[] rfl (by (try simp only [List.map_toArray, List.map_cons, List.map_nil]); first | done | rfl | (simp only [List.length_drop, List.length_take]; rfl)) ?_; (with_reducible refine (tenterhooklaw06_awake.calls k  t178 _ A4.out).mono ?_); rintro e w6 ⟨rfl, hb⟩; refine ⟨_, rfl, ?_⟩; have n0_ := Aside0.mk (below_step (by repeat (first | (with_reducible first | exact HB.out | apply below_alloc | apply pw_below_drewN | apply below_drew1) | exact HB.out)) hb); clear HB; have HB := n0_; clear n0_; (try clear hb); (try clear hb2); (try clear hk); (try clear hi)))
    go_ret
    exact ⟨by first | rfl | (simp [errW_none, errW_some] <;> rfl) | (simp [*, errW_none, errW_some] <;> rfl), by repeat (first | (with_reducible first | exact HB.out | apply below_alloc | apply pw_below_drewN | apply below_drew1) | exact HB.out)⟩
  · rw [if_neg c5] at H
    have c5b0 : decide (1000 < (a0.size : Int)) = false := decide_eq_false c5
    have c5b1 : decide (1000 < a0.size) = false := decide_eq_false (by omega)
    clear c5
    replace H := Option.bind_eq_some_iff.mp H
    obtain ⟨t180, A70, H⟩ := H
    replace H : ((scan_Parse.f k a0 a1 (wrap64 (a2))).bind fun bt181 => ((scan_Left.f bt181.2.1 bt181.2.2).bind fun t185 => (tenterhooklaw06_ScanParts.l0 k a2 t178 t180 bt181.1 t185 0))) = some r := H
    have A7 := Aside0.mk A70
    clear A70
    replace H := Option.bind_eq_some_iff.mp H
    obtain ⟨⟨t181, t182, t183⟩, A80, H⟩ := H
    replace H : ((scan_Left.f t182 t183).bind fun t185 => (tenterhooklaw06_ScanParts.l0 k a2 t178 t180 t181 t185 0)) = some r := H
    have A8 := Aside0.mk A80
    clear A80
    replace H := Option.bind_eq_some_iff.mp H
    obtain ⟨t185, A90, H⟩ := H
    replace H : (tenterhooklaw06_ScanParts.l0 k a2 t178 t180 t181 t185 0) = some r := H
    have A9 := Aside0.mk A90
    clear A90
    have H' := Aside0.mk H
    clear H
    go_enter Try.func5, Try.ntmps5
    go_wp2_with (first | ((with_reducible refine gate_callee (f := 7) rfl ?_); refine goesL_ (some 14) rfl rfl Try.func7 (by kernel_rfl) rfl #[] rfl (by (try simp only [List.map_toArray, List.map_cons, List.map_nil]); first | done | rfl | (simp only [List.length_drop, List.length_take]; rfl)) ?_; (with_reducible refine (tenterhooklaw06_awake.calls k  t178 _ A4.out).mono ?_); rintro e w10 ⟨rfl, hb⟩; refine ⟨_, rfl, ?_⟩; have n0_ := Aside0.mk (below_step (by repeat (first | (with_reducible first | exact HB.out | apply below_alloc | apply pw_below_drewN | apply below_drew1) | exact HB.out)) hb); clear HB; have HB := n0_; clear n0_; (try clear hb); (try clear hb2); (try clear hk); (try clear hi)) | ((with_reducible refine gate_dst (N := 8) rfl ?_); (try (refine gate_guard (by rfl) ?_; dsimp only)); refine box_event ?hg (N := 8) ?hd (cs := #[.string (⟨#[]⟩ : ByteArray), .int .i64 0]) (t := 25) ?hr ?_; (case hd => rfl); (case hg => rfl); (case hr => first | (go_simp; done) | (go_simp; rfl)); intro gb179 hg w11 hbox hb; have n0_ := Aside0.mk (below_step (by repeat (first | (with_reducible first | exact HB.out | apply below_alloc | apply pw_below_drewN | apply below_drew1) | exact HB.out)) hb); have n1_ := Aside0.mk (hbox); have n2_ := Aside0.mk ((by rw [hg]; exact (below_size (by repeat (first | (with_reducible first | exact HB.out | apply below_alloc | apply pw_below_drewN | apply below_drew1) | exact HB.out))) : w.heap.size ≤ gb179)); have n3_ := Aside0.mk ((by rw [hg]; exact (below_size (by repeat (first | (with_reducible first | exact HB.out | apply below_alloc | apply pw_below_drewN | apply below_drew1) | exact HB.out))) : w.heap.size ≤ gb179)); clear HB; have HB := n0_; have BK179 := n1_; have GW179 := n2_; have GE179 := n3_; clear n0_ n1_ n2_ n3_; clear hb hbox hg; have hcz12_0 : w11.cell? ⟨gb179, 0, none⟩ = some (.string (⟨#[]⟩ : ByteArray)) := (blk_cell BK179.out 0).trans rfl; have hcz12_1 : w11.cell? ⟨gb179, 1, none⟩ = some (.int .i64 0) := (blk_cell BK179.out 1).trans rfl; have hfz12_0 := blk_frozen BK179.out 0; have hfz12_1 := blk_frozen BK179.out 1) | ((with_reducible refine gate_callee (f := 9) rfl ?_); refine goesL_ (some 23) rfl rfl Try.func9 (by kernel_rfl) rfl #[.agg #[.string a0, .int .i64 a1]] rfl (by (try simp only [List.map_toArray, List.map_cons, List.map_nil]); first | done | rfl | (simp only [List.length_drop, List.length_take]; rfl)) ?_; (with_reducible refine (scan_Left.calls a0 a1 t180 _ A7.out).mono ?_); rintro e w13 ⟨rfl, hb⟩; refine ⟨_, rfl, ?_⟩; have n0_ := Aside0.mk (blk_below (g := gb179) (o := .cells #[.string a0, .int .i64 a1] 25 (0, 0)) (by (with_reducible repeat (first | refine blk_drewN ?_ _ | refine blk_drew ?_ | refine blk_alloc ?_ _)); refine blk_put (cs := #[.string a0, .int .i64 0]) ?_ 1 _ rfl; (with_reducible repeat (first | refine blk_drewN ?_ _ | refine blk_drew ?_ | refine blk_alloc ?_ _)); refine blk_put (cs := #[.string (⟨#[]⟩ : ByteArray), .int .i64 0]) ?_ 0 _ rfl; (with_reducible repeat (first | refine blk_drewN ?_ _ | refine blk_drew ?_ | refine blk_alloc ?_ _)); exact BK179.out) hb); have n1_ := Aside0.mk (below_step (by repeat (first | (with_reducible first | exact HB.out | apply below_alloc | apply pw_below_drewN | apply below_drew1 | refine below_set ?_ GE179.out) | exact HB.out)) hb); clear BK179; clear HB; have BK179 := n0_; have HB := n1_; clear n0_ n1_; (try clear hb); (try clear hb2); (try clear hk); (try clear hi); have hcz14_0 : w13.cell? ⟨gb179, 0, none⟩ = some (.string a0) := (blk_cell BK179.out 0).trans rfl; have hcz14_1 : w13.cell? ⟨gb179, 1, none⟩ = some (.int .i64 a1) := (blk_cell BK179.out 1).trans rfl; have hfz14_0 := blk_frozen BK179.out 0; have hfz14_1 := blk_frozen BK179.out 1) | ((with_reducible refine gate_callee (f := 12) rfl ?_); refine goesL_ (some 28) rfl rfl Try.func12 (by kernel_rfl) rfl #[.agg #[.string a0, .int .i64 a1], .int .i64 (wrap64 (a2))] rfl (by (try simp only [List.map_toArray, List.map_cons, List.map_nil]); first | done | rfl | (simp only [List.length_drop, List.length_take]; rfl)) ?_; (with_reducible refine (scan_Parse.calls k a0 a1 (wrap64 (a2)) t181 t182 t183 _ A8.out).mono ?_); rintro e w15 ⟨rfl, hb⟩; refine ⟨_, rfl, ?_⟩; have n0_ := Aside0.mk (blk_below (g := gb179) (o := .cells #[.string a0, .int .i64 a1] 25 (0, 0)) (by (with_reducible repeat (first | refine blk_drewN ?_ _ | refine blk_drew ?_ | refine blk_alloc ?_ _)); exact BK179.out) hb); have n1_ := Aside0.mk (below_step (by repeat (first | (with_reducible first | exact HB.out | apply below_alloc | apply pw_below_drewN | apply below_drew1 | refine below_set ?_ GE179.out) | exact HB.out)) hb); clear BK179; clear HB; have BK179 := n0_; have HB := n1_; clear n0_ n1_; (try clear hb); (try clear hb2); (try clear hk); (try clear hi)) | ((with_reducible refine gate_dst (N := 11) rfl ?_); (try (refine gate_guard (by rfl) ?_; dsimp only)); refine box_event ?hg (N := 11) ?hd (cs := #[.string (⟨#[]⟩ : ByteArray), .int .i64 0]) (t := 25) ?hr ?_; (case hd => rfl); (case hg => rfl); (case hr => first | (go_simp; done) | (go_simp; rfl)); intro gb184 hg w16 hbox hb; have n0_ := Aside0.mk (blk_below (g := gb179) (o := .cells #[.string a0, .int .i64 a1] 25 (0, 0)) (by (with_reducible repeat (first | refine blk_drewN ?_ _ | refine blk_drew ?_ | refine blk_alloc ?_ _)); exact BK179.out) hb); have n1_ := Aside0.mk (below_step (by repeat (first | (with_reducible first | exact HB.out | apply below_alloc | apply pw_below_drewN | apply below_drew1 | refine below_set ?_ GE179.out) | exact HB.out)) hb); have n2_ := Aside0.mk (hbox); have n3_ := Aside0.mk ((by rw [hg]; exact (below_size (by repeat (first | (with_reducible first | exact HB.out | apply below_alloc | apply pw_below_drewN | apply below_drew1 | refine below_set ?_ GE179.out) | exact HB.out))) : w.heap.size ≤ gb184)); have n4_ := Aside0.mk ((by rw [hg]; exact (below_size (by repeat (first | (with_reducible first | exact HB.out | apply below_alloc | apply pw_below_drewN | apply below_drew1 | refine below_set ?_ GE179.out) | exact HB.out))) : w.heap.size ≤ gb184)); have n5_ := Aside0.mk ((by rw [hg]; exact Nat.ne_of_lt (blk_lt (g := gb179) (o := .cells #[.string a0, .int .i64 a1] 25 (0, 0)) (by (with_reducible repeat (first | refine blk_drewN ?_ _ | refine blk_drew ?_ | refine blk_alloc ?_ _)); exact BK179.out)) : gb179 ≠ gb184)); have n6_ := Aside0.mk ((by rw [hg]; exact Nat.ne_of_gt (blk_lt (g := gb179) (o := .cells #[.string a0, .int .i64 a1] 25 (0, 0)) (by (with_reducible repeat (first | refine blk_drewN ?_ _ | refine blk_drew ?_ | refine blk_alloc ?_ _)); exact BK179.out)) : gb184 ≠ gb179)); clear BK179; clear HB; have BK179 := n0_; have HB := n1_; have BK184 := n2_; have GW184 := n3_; have GE184 := n4_; have NB179_184 := n5_; have NB184_179 := n6_; clear n0_ n1_ n2_ n3_ n4_ n5_ n6_; clear hb hbox hg; have hnb17 := NB184_179.out; have hnc17 := NB179_184.out; have hcz18_0 : w16.cell? ⟨gb184, 0, none⟩ = some (.string (⟨#[]⟩ : ByteArray)) := (blk_cell BK184.out 0).trans rfl; have hcz18_1 : w16.cell? ⟨gb184, 1, none⟩ = some (.int .i64 0) := (blk_cell BK184.out 1).trans rfl; have hfz18_0 := blk_frozen BK184.out 0; have hfz18_1 := blk_frozen BK184.out 1) | ((with_reducible refine gate_callee (f := 9) rfl ?_); refine goesL_ (some 32) rfl rfl Try.func9 (by kernel_rfl) rfl #[.agg #[.string t182, .int .i64 t183]] rfl (by (try simp only [List.map_toArray, List.map_cons, List.map_nil]); first | done | rfl | (simp only [List.length_drop, List.length_take]; rfl)) ?_; (with_reducible refine (scan_Left.calls t182 t183 t185 _ A9.out).mono ?_); rintro e w19 ⟨rfl, hb⟩; refine ⟨_, rfl, ?_⟩; have n0_ := Aside0.mk (blk_below (g := gb179) (o := .cells #[.string a0, .int .i64 a1] 25 (0, 0)) (by (with_reducible repeat (first | refine blk_drewN ?_ _ | refine blk_drew ?_ | refine blk_alloc ?_ _)); refine blk_far ?_ NB179_184.out _; (with_reducible repeat (first | refine blk_drewN ?_ _ | refine blk_drew ?_ | refine blk_alloc ?_ _)); refine blk_far ?_ NB179_184.out _; (with_reducible repeat (first | refine blk_drewN ?_ _ | refine blk_drew ?_ | refine blk_alloc ?_ _)); exact BK179.out) hb); have n1_ := Aside0.mk (blk_below (g := gb184) (o := .cells #[.string t182, .int .i64 t183] 25 (0, 0)) (by (with_reducible repeat (first | refine blk_drewN ?_ _ | refine blk_drew ?_ | refine blk_alloc ?_ _)); refine blk_put (cs := #[.string t182, .int .i64 0]) ?_ 1 _ rfl; (with_reducible repeat (first | refine blk_drewN ?_ _ | refine blk_drew ?_ | refine blk_alloc ?_ _)); refine blk_put (cs := #[.string (⟨#[]⟩ : ByteArray), .int .i64 0]) ?_ 0 _ rfl; (with_reducible repeat (first | refine blk_drewN ?_ _ | refine blk_drew ?_ | refine blk_alloc ?_ _)); exact BK184.out) hb); have n2_ := Aside0.mk (below_step (by repeat (first | (with_reducible first | exact HB.out | apply below_alloc | apply pw_below_drewN | apply below_drew1 | refine below_set ?_ GE179.out | refine below_set ?_ GE184.out) | exact HB.out)) hb); clear BK179; clear BK184; clear HB; have BK179 := n0_; have BK184 := n1_; have HB := n2_; clear n0_ n1_ n2_; (try clear hb); (try clear hb2); (try clear hk); (try clear hi)))
    go_loopg [13] k (fun kq v13 w' => ∃ (x13_1 : Int), v13 = .int .i64 x13_1 ∧ Aside0 (tenterhooklaw06_ScanParts.l0 kq a2 t178 t180 t181 t185 x13_1 = some r) ∧ Aside0 (kq ≤ k) ∧ Aside0 (w'.heap[gb179]? = some (.cells #[.string a0, .int .i64 a1] 25 (0, 0))) ∧ Aside0 (w'.heap[gb184]? = some (.cells #[.string t182, .int .i64 t183] 25 (0, 0))) ∧ Aside0 (Below w.heap.size w w'))
    case atStart => exact ⟨(0), (by first | rfl | (simp; done) | (simp [*]; done)), H', ⟨Nat.le_refl _⟩, ⟨by (with_reducible repeat (first | refine blk_drewN ?_ _ | refine blk_drew ?_ | refine blk_alloc ?_ _)); exact BK179.out⟩, ⟨by (with_reducible repeat (first | refine blk_drewN ?_ _ | refine blk_drew ?_ | refine blk_alloc ?_ _)); exact BK184.out⟩, ⟨by repeat (first | (with_reducible first | exact HB.out | apply below_alloc | apply pw_below_drewN | apply below_drew1 | refine below_set ?_ GE179.out | refine below_set ?_ GE184.out) | exact HB.out)⟩⟩
    case round =>
      clear H'
      try clear c1
      try clear p2
      try clear c5
      try clear c5b0
      try clear c5b1
      try clear p6
      try clear c7
      try clear c9
      try clear c12
      try clear c17
      try clear hcz12_0
      try clear hcz12_1
      try clear hcz14_0
      try clear hcz14_1
      try clear hcz18_0
      try clear hcz18_1
      try clear hfz12_0
      try clear hfz12_1
      try clear hfz14_0
      try clear hfz14_1
      try clear hfz18_0
      try clear hfz18_1
      obtain ⟨x13_1, rfl, HA, HK1, BK179, BK184, HB⟩ := hrel
      cases gk with
      | zero => exact absurd HA.out (by simp [tenterhooklaw06_ScanParts.l0])
      | succ k1 =>
        have H := HA.out
        clear HA
        simp only [tenterhooklaw06_ScanParts.l0] at H
        by_cases c20 : x13_1 < (t181.size : Int)
        · rw [if_pos c20] at H
          have c20b0 : decide (x13_1 < (t181.size : Int)) = true := decide_eq_true c20
          clear c20
          by_cases c21 : 0 ≤ x13_1
          · rw [if_pos c21] at H
            have c21b0 : decide (0 ≤ x13_1) = true := decide_eq_true c21
            clear c21
            by_cases c23 : (bt t181 x13_1) = a2
            · rw [if_pos c23] at H
              exact absurd ((Option.some.inj H).trans hr) (by decide)
            · rw [if_neg c23] at H
              have c23b0 : ((bt t181 x13_1) == a2) = false := beq_eq_false_iff_ne.mpr c23
              have c23b1 : ((bt t181 x13_1) != a2) = true := bne_iff_ne.mpr c23
              by_cases c24 : a2 = 32
              · rw [if_pos c24] at H
                have c24b0 : (a2 == 32) = true := beq_iff_eq.mpr c24
                have c24b1 : (a2 != 32) = false := bne_eq_false_iff_eq.mpr c24
                clear c24
                by_cases c26 : (bt t181 x13_1) < 32
                · rw [if_pos c26] at H
                  exact absurd ((Option.some.inj H).trans hr) (by decide)
                · rw [if_neg c26] at H
                  have c26b0 : decide ((bt t181 x13_1) < 32) = false := decide_eq_false c26
                  clear c26
                  have H' := Aside0.mk H
                  clear H
                  have p22 : 0 ≤ (x13_1 : Int) := of_decide_eq_true (by first | (with_reducible assumption) | assumption)
                  have q22 : x13_1 < (t181.size : Int) := of_decide_eq_true (by first | (with_reducible assumption) | assumption)
                  have hx22 := bt_at t181 x13_1
                  replace p22 := eq_true p22
                  replace q22 := eq_true q22
                  have p25 : 0 ≤ (x13_1 : Int) := of_decide_eq_true (by first | (with_reducible assumption) | assumption)
                  have q25 : x13_1 < (t181.size : Int) := of_decide_eq_true (by first | (with_reducible assumption) | assumption)
                  have hx25 := bt_at t181 x13_1
                  replace p25 := eq_true p25
                  replace q25 := eq_true q25
                  go_wp2
                  go_roundg k1
                  case measure => have := HK1.out; omega
                  case rel => exact ⟨(wrap64 (x13_1 + 1)), (by first | rfl | (simp; done) | (simp [*]; done)), H', ⟨by have := HK1.out; omega⟩, ⟨by (with_reducible repeat (first | refine blk_drewN ?_ _ | refine blk_drew ?_ | refine blk_alloc ?_ _)); exact BK179.out⟩, ⟨by (with_reducible repeat (first | refine blk_drewN ?_ _ | refine blk_drew ?_ | refine blk_alloc ?_ _)); exact BK184.out⟩, ⟨by repeat (first | (with_reducible first | exact HB.out | apply below_alloc | apply pw_below_drewN | apply below_drew1 | refine below_set ?_ GE179.out | refine below_set ?_ GE184.out) | exact HB.out)⟩⟩
              · rw [if_neg c24] at H
                have c24b0 : (a2 == 32) = false := beq_eq_false_iff_ne.mpr c24
                have c24b1 : (a2 != 32) = true := bne_iff_ne.mpr c24
                have H' := Aside0.mk H
                clear H
                have p22 : 0 ≤ (x13_1 : Int) := of_decide_eq_true (by first | (with_reducible assumption) | assumption)
                have q22 : x13_1 < (t181.size : Int) := of_decide_eq_true (by first | (with_reducible assumption) | assumption)
                have hx22 := bt_at t181 x13_1
                replace p22 := eq_true p22
                replace q22 := eq_true q22
                go_wp2
                go_roundg k1
                case measure => have := HK1.out; omega
                case rel => exact ⟨(wrap64 (x13_1 + 1)), (by first | rfl | (simp; done) | (simp [*]; done)), H', ⟨by have := HK1.out; omega⟩, ⟨by (with_reducible repeat (first | refine blk_drewN ?_ _ | refine blk_drew ?_ | refine blk_alloc ?_ _)); exact BK179.out⟩, ⟨by (with_reducible repeat (first | refine blk_drewN ?_ _ | refine blk_drew ?_ | refine blk_alloc ?_ _)); exact BK184.out⟩, ⟨by repeat (first | (with_reducible first | exact HB.out | apply below_alloc | apply pw_below_drewN | apply below_drew1 | refine below_set ?_ GE179.out | refine below_set ?_ GE184.out) | exact HB.out)⟩⟩
          · rw [if_neg c21] at H
            exact absurd H (by simp)
        · rw [if_neg c20] at H
          have c20b0 : decide (x13_1 < (t181.size : Int)) = false := decide_eq_false c20
          clear c20
          by_cases c27 : (wrap64 ((t181.size : Int) + (t185.size : Int))) = (t180.size : Int)
          · rw [if_pos c27] at H
            have c27b0 : ((wrap64 ((t181.size : Int) + (t185.size : Int))) == (t180.size : Int)) = true := beq_iff_eq.mpr c27
            have c27b1 : ((wrap64 ((t181.size : Int) + (t185.size : Int))) != (t180.size : Int)) = false := bne_eq_false_iff_eq.mpr c27
            clear c27
            by_cases c28 : t178 = true
            · subst c28
              have H1 : (if t181.toList = t180.toList then (some (t185.toList == ([] : List UInt8))) else (some false)) = some r := by rw [if_pos rfl] at H; exact H
              clear H
              have H := H1
              clear H1
              by_cases c29 : t181.toList = t180.toList
              · rw [if_pos c29] at H
                have c29b0 : (t181.toList == t180.toList) = true := beq_iff_eq.mpr c29
                have c29b1 : (t181.toList != t180.toList) = false := bne_eq_false_iff_eq.mpr c29
                clear c29
                obtain rfl := Option.some.inj H
                go_wp2
                go_ret
                exact ⟨by first | rfl | (simp [errW_none, errW_some] <;> rfl) | (simp [*, errW_none, errW_some] <;> rfl), by repeat (first | (with_reducible first | exact HB.out | apply below_alloc | apply pw_below_drewN | apply below_drew1 | refine below_set ?_ GE179.out | refine below_set ?_ GE184.out) | exact HB.out)⟩
              · rw [if_neg c29] at H
                exact absurd ((Option.some.inj H).trans hr) (by decide)
            · replace c28 := Bool.eq_false_iff.mpr c28
              subst c28
              have H1 : (some false) = some r := by rw [if_neg (show ¬ (false = true) by decide)] at H; exact H
              clear H
              have H := H1
              exact absurd ((Option.some.inj H).trans hr) (by decide)
          · rw [if_neg c27] at H
            have c27b0 : ((wrap64 ((t181.size : Int) + (t185.size : Int))) == (t180.size : Int)) = false := beq_eq_false_iff_ne.mpr c27
            have c27b1 : ((wrap64 ((t181.size : Int) + (t185.size : Int))) != (t180.size : Int)) = true := bne_iff_ne.mpr c27
            by_cases c30 : t178 = true
            · subst c30
              have H1 : (if (wrap64 ((wrap64 ((t181.size : Int) + 1)) + (t185.size : Int))) = (t180.size : Int) then (if 0 ≤ (t181.size : Int) then (if (t181.size : Int) ≤ (t180.size : Int) then (if (t180.extract 0 ((t181.size : Int) : Int).toNat).toList = t181.toList then (if 0 ≤ (wrap64 ((t181.size : Int) + 1)) then (if (wrap64 ((t181.size : Int) + 1)) ≤ (t180.size : Int) then (if (t180.extract ((wrap64 ((t181.size : Int) + 1)) : Int).toNat t180.size).toList = t185.toList then (if (t181.size : Int) < (t180.size : Int) then (if (bt t180 (t181.size : Int)) = a2 then (some true) else (if a2 = 32 then (some (decide ((bt t180 (t181.size : Int)) < 32))) else (some false))) else (none)) else (some false)) else (none)) else (none)) else (some false)) else (none)) else (none)) else (some false)) = some r := by rw [if_pos rfl] at H; exact H
              clear H
              have H := H1
              clear H1
              by_cases c31 : (wrap64 ((wrap64 ((t181.size : Int) + 1)) + (t185.size : Int))) = (t180.size : Int)
              · rw [if_pos c31] at H
                have c31b0 : ((wrap64 ((wrap64 ((t181.size : Int) + 1)) + (t185.size : Int))) == (t180.size : Int)) = true := beq_iff_eq.mpr c31
                have c31b1 : ((wrap64 ((wrap64 ((t181.size : Int) + 1)) + (t185.size : Int))) != (t180.size : Int)) = false := bne_eq_false_iff_eq.mpr c31
                clear c31
                by_cases c32 : 0 ≤ (t181.size : Int)
                · rw [if_pos c32] at H
                  have c32b0 := eq_true c32
                  have c32b1 : decide (0 ≤ (t181.size : Int)) = true := decide_eq_true c32
                  clear c32
                  by_cases c33 : (t181.size : Int) ≤ (t180.size : Int)
                  · rw [if_pos c33] at H
                    have c33b0 := eq_true c33
                    have c33b1 : decide ((t181.size : Int) ≤ (t180.size : Int)) = true := decide_eq_true c33
                    clear c33
                    by_cases c34 : (t180.extract 0 ((t181.size : Int) : Int).toNat).toList = t181.toList
                    · rw [if_pos c34] at H
                      have c34b0 : ((t180.extract 0 t181.size).toList == t181.toList) = true := beq_iff_eq.mpr c34
                      have c34b1 : ((t180.extract 0 t181.size).toList != t181.toList) = false := bne_eq_false_iff_eq.mpr c34
                      clear c34
                      obtain ⟨ji35, hji35⟩ : ∃ j_ : Int, (wrap64 ((t181.size : Int) + 1)) = j_ := ⟨_, rfl⟩
                      replace H : (if 0 ≤ (ji35) then (if (ji35) ≤ (t180.size : Int) then (if (t180.extract ((ji35) : Int).toNat t180.size).toList = t185.toList then (if (t181.size : Int) < (t180.size : Int) then (if (bt t180 (t181.size : Int)) = a2 then (some true) else (if a2 = 32 then (some (decide ((bt t180 (t181.size : Int)) < 32))) else (some false))) else (none)) else (some false)) else (none)) else (none)) = some r := by first | (rw [hji35] at H; exact H) | (simp only [hji35] at H ⊢; exact H)
                      (try rw [hji35] at c31b0)
                      (try rw [hji35] at c31b1)
                      have hji35w : (IntKind.i64.wrap ((t181.size : Int) + 1)) = ji35 := (i64_w _).trans hji35
                      by_cases c36 : 0 ≤ (ji35)
                      · rw [if_pos c36] at H
                        have c36b0 := eq_true c36
                        have c36b1 : decide (0 ≤ (ji35)) = true := decide_eq_true c36
                        clear c36
                        by_cases c37 : (ji35) ≤ (t180.size : Int)
                        · rw [if_pos c37] at H
                          have c37b0 := eq_true c37
                          have c37b1 : decide ((ji35) ≤ (t180.size : Int)) = true := decide_eq_true c37
                          clear c37
                          by_cases c38 : (t180.extract ((ji35) : Int).toNat t180.size).toList = t185.toList
                          · rw [if_pos c38] at H
                            have c38b0 : ((t180.extract ((ji35) : Int).toNat t180.size).toList == t185.toList) = true := beq_iff_eq.mpr c38
                            have c38b1 : ((t180.extract ((ji35) : Int).toNat t180.size).toList != t185.toList) = false := bne_eq_false_iff_eq.mpr c38
                            clear c38
                            by_cases c39 : (t181.size : Int) < (t180.size : Int)
                            · rw [if_pos c39] at H
                              have c39b0 : decide ((t181.size : Int) < (t180.size : Int)) = true := decide_eq_true c39
                              have c39b1 : decide (t181.size < t180.size) = true := decide_eq_true (Int.ofNat_lt.mp c39)
                              clear c39
                              by_cases c41 : (bt t180 (t181.size : Int)) = a2
                              · rw [if_pos c41] at H
                                have c41b0 : ((bt t180 (t181.size : Int)) == a2) = true := beq_iff_eq.mpr c41
                                have c41b1 : ((bt t180 (t181.size : Int)) != a2) = false := bne_eq_false_iff_eq.mpr c41
                                clear c41
                                obtain rfl := Option.some.inj H
                                have p40 : 0 ≤ ((t181.size : Int) : Int) := of_decide_eq_true (by first | (with_reducible assumption) | assumption)
                                have q40 : (t181.size : Int) < (t180.size : Int) := of_decide_eq_true (by first | (with_reducible assumption) | assumption)
                                have hx40 : ∀ h_ : t181.size < t180.size, ((t180[t181.size]'h_).toNat : Int) = bt t180 (t181.size : Int) := bt_at t180 (t181.size : Int)
                                replace p40 := eq_true p40
                                replace q40 := eq_true q40
                                go_wp2
                                go_ret
                                exact ⟨by first | rfl | (simp [errW_none, errW_some] <;> rfl) | (simp only [← hji35]; first | rfl | (simp [errW_none, errW_some] <;> rfl)) | (simp [*, errW_none, errW_some] <;> rfl), by repeat (first | (with_reducible first | exact HB.out | apply below_alloc | apply pw_below_drewN | apply below_drew1 | refine below_set ?_ GE179.out | refine below_set ?_ GE184.out) | exact HB.out)⟩
                              · rw [if_neg c41] at H
                                have c41b0 : ((bt t180 (t181.size : Int)) == a2) = false := beq_eq_false_iff_ne.mpr c41
                                have c41b1 : ((bt t180 (t181.size : Int)) != a2) = true := bne_iff_ne.mpr c41
                                by_cases c42 : a2 = 32
                                · rw [if_pos c42] at H
                                  have c42b0 : (a2 == 32) = true := beq_iff_eq.mpr c42
                                  have c42b1 : (a2 != 32) = false := bne_eq_false_iff_eq.mpr c42
                                  clear c42
                                  obtain rfl := Option.some.inj H
                                  have p40 : 0 ≤ ((t181.size : Int) : Int) := of_decide_eq_true (by first | (with_reducible assumption) | assumption)
                                  have q40 : (t181.size : Int) < (t180.size : Int) := of_decide_eq_true (by first | (with_reducible assumption) | assumption)
                                  have hx40 : ∀ h_ : t181.size < t180.size, ((t180[t181.size]'h_).toNat : Int) = bt t180 (t181.size : Int) := bt_at t180 (t181.size : Int)
                                  replace p40 := eq_true p40
                                  replace q40 := eq_true q40
                                  have p43 : 0 ≤ ((t181.size : Int) : Int) := of_decide_eq_true (by first | (with_reducible assumption) | assumption)
                                  have q43 : (t181.size : Int) < (t180.size : Int) := of_decide_eq_true (by first | (with_reducible assumption) | assumption)
                                  have hx43 : ∀ h_ : t181.size < t180.size, ((t180[t181.size]'h_).toNat : Int) = bt t180 (t181.size : Int) := bt_at t180 (t181.size : Int)
                                  replace p43 := eq_true p43
                                  replace q43 := eq_true q43
                                  go_wp2
                                  go_ret
                                  exact ⟨by first | rfl | (simp [errW_none, errW_some] <;> rfl) | (simp only [← hji35]; first | rfl | (simp [errW_none, errW_some] <;> rfl)) | (simp [*, errW_none, errW_some] <;> rfl), by repeat (first | (with_reducible first | exact HB.out | apply below_alloc | apply pw_below_drewN | apply below_drew1 | refine below_set ?_ GE179.out | refine below_set ?_ GE184.out) | exact HB.out)⟩
                                · rw [if_neg c42] at H
                                  exact absurd ((Option.some.inj H).trans hr) (by decide)
                            · rw [if_neg c39] at H
                              exact absurd H (by simp)
                          · rw [if_neg c38] at H
                            exact absurd ((Option.some.inj H).trans hr) (by decide)
                        · rw [if_neg c37] at H
                          exact absurd H (by simp)
                      · rw [if_neg c36] at H
                        exact absurd H (by simp)
                    · rw [if_neg c34] at H
                      exact absurd ((Option.some.inj H).trans hr) (by decide)
                  · rw [if_neg c33] at H
                    exact absurd H (by simp)
                · rw [if_neg c32] at H
                  exact absurd H (by simp)
              · rw [if_neg c31] at H
                exact absurd ((Option.some.inj H).trans hr) (by decide)
            · replace c30 := Bool.eq_false_iff.mpr c30
              subst c30
              have H1 : (some false) = some r := by rw [if_neg (show ¬ (false = true) by decide)] at H; exact H
              clear H
              have H := H1
              exact absurd ((Option.some.inj H).trans hr) (by decide)
/-- THE ONE PURE STATEMENT of tenterhooklaw06_ScanParts: yours. -/
def tenterhooklaw06_ScanParts.Pure : Prop := ∀ (a0 : ByteArray) (a1 : Int) (a2 : Int), a0.size ≤ 140737488351232 → (Lit.int .i64 a1).wf = true → (Lit.int .u8 a2).wf = true → ∃ k, tenterhooklaw06_ScanParts.f k a0 a1 a2 = some true
theorem tenterhooklaw06_ScanParts.walk (P : tenterhooklaw06_ScanParts.Pure) (a0 : ByteArray) (a1 : Int) (a2 : Int) (w : World) (w0 : a0.size ≤ 140737488351232) (w1 : (Lit.int .i64 a1).wf = true) (w2 : (Lit.int .u8 a2).wf = true) :
    Calls Try.prog 5 #[.string a0, .int .i64 a1, .int .u8 a2] w fun e w' => e = .returned (.bool true) ∧ Below w.heap.size w w' := by
  obtain ⟨k, h⟩ := P a0 a1 a2 w0 w1 w2
  refine (tenterhooklaw06_ScanParts.calls_true k a0 a1 a2 true w rfl h).mono ?_
  rintro e w' ⟨rfl, hd⟩
  exact ⟨rfl, hd⟩

end Go.Proofs.Ytekfjpnfhgbalaa.P
