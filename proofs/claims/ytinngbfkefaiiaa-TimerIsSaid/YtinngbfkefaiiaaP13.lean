-- Written by a program of this session (xprint.py, asm.py).
import Derived.Test.YtinngbfkefaiiaaP0
import Derived.Test.YtinngbfkefaiiaaP1
import Derived.Test.YtinngbfkefaiiaaP2
import Derived.Test.YtinngbfkefaiiaaP6
import Derived.Test.YtinngbfkefaiiaaP8
import Derived.Test.YtinngbfkefaiiaaP9
import Derived.Test.YtinngbfkefaiiaaX
import Derived.Test.YtinngbfkefaiiaaS
import Derived.Test.YtinngbfkefaiiaaR
namespace Go.Proofs.Ytinngbfkefaiiaa.P
open Go.Proofs.YtinngbfkefaiiaaX Go.RowKit Go.Proofs.YtinngbfkefaiiaaW.PrintWords Go.Proofs.YtinngbfkefaiiaaW.PrintLast Go.Proofs.YtinngbfkefaiiaaW.PrintMore
attribute [local go_sem] max2_int min2_int max_two min_two max_three min_three max_four min_four   -- for this text's walks alone
attribute [local go_sem high] eqA61
set_option linter.unusedVariables false
set_option linter.unusedSimpArgs false

/-! ### tenterhooklaw17_TimerOrder: function 6 -/
mutual
def tenterhooklaw17_TimerOrder.j0 : Nat → List (S61) → Int → Int → Bool → Bool → Option (Bool)
  | 0, _, _, _, _, _ => none
  | k + 1, x0, x1, x2, x7, x25 => if x25 = true then (some x7) else ((tenterhooklaw17_naps.f k x0).bind fun t350 => ((timer_Put.f k t350 x1 x2).bind fun bt353 => (if bt353.2 = true then ((timer_Drop.f bt353.1 x1).bind fun bt361 => ((timer_Next.f bt353.1).bind fun bt365 => (tenterhooklaw17_TimerOrder.l0 k x0 x1 x2 x7 bt353.1 bt361.1 bt361.2 bt365.1 bt365.2 false 0))) else (if x7 = true then ((tenterhooklaw17_slept.f k bt353.1).bind fun t357 => ((tenterhookref17_Same.f k t357 x0).bind fun t360 => (some t360))) else (some false)))))
def tenterhooklaw17_TimerOrder.l0 : Nat → List (S61) → Int → Int → Bool → List (S49) → List (S49) → Bool → Int → Bool → Bool → Int → Option (Bool)
  | 0, _, _, _, _, _, _, _, _, _, _, _ => none
  | k + 1, x0, x1, x2, x7, x8, x10, x11, x12, x13, x14, x15 => if x15 < (x8.length : Int) then (if 0 ≤ x15 then (if ((rd_T49 x8 x15).f1) < x12 then (some false) else (if x14 = true then (if ((rd_T49 x8 x15).f1) ≤ x2 then (some false) else (tenterhooklaw17_TimerOrder.l0 k x0 x1 x2 x7 x8 x10 x11 x12 x13 true (wrap64 (x15 + 1)))) else (tenterhooklaw17_TimerOrder.l0 k x0 x1 x2 x7 x8 x10 x11 x12 x13 (((rd_T49 x8 x15).f0) == x1) (wrap64 (x15 + 1))))) else (none)) else (if x7 = true then (if x11 = true then (if x13 = true then ((tenterhooklaw17_slept.f k x10).bind fun t370 => ((tenterhookref17_Same.f k t370 x0).bind fun t373 => (if t373 = true then ((timer_Sane.f x8).bind fun t374 => (if t374 = true then (if (x8.length : Int) = (wrap64 ((x0.length : Int) + 1)) then (some x14) else (some false)) else (some false))) else (some false)))) else (some false)) else (some false)) else (some false))
end
def tenterhooklaw17_TimerOrder.f (k : Nat) (l0 : List (S61)) (a1 : Int) (a2 : Int) : Option (Bool) := (tenterhooklaw17_awake.f k).bind fun t345 => (if (l0.length : Int) > 30 then (tenterhooklaw17_TimerOrder.j0 k l0 a1 a2 t345 true) else ((tenterhooklaw17_naps.f k l0).bind fun t346 => ((timer_Sane.f t346).bind fun t349 => (tenterhooklaw17_TimerOrder.j0 k l0 a1 a2 t345 (!t349)))))
theorem tenterhooklaw17_TimerOrder.mono_l : ∀ k, (∀ y0 y1 y2 y3 y4, LeO (tenterhooklaw17_TimerOrder.j0 k y0 y1 y2 y3 y4) (tenterhooklaw17_TimerOrder.j0 (k + 1) y0 y1 y2 y3 y4)) ∧ (∀ y0 y1 y2 y3 y4 y5 y6 y7 y8 y9 y10, LeO (tenterhooklaw17_TimerOrder.l0 k y0 y1 y2 y3 y4 y5 y6 y7 y8 y9 y10) (tenterhooklaw17_TimerOrder.l0 (k + 1) y0 y1 y2 y3 y4 y5 y6 y7 y8 y9 y10))
  | 0 => ⟨fun _ _ _ _ _ r h => by simp [tenterhooklaw17_TimerOrder.j0] at h, fun _ _ _ _ _ _ _ _ _ _ _ r h => by simp [tenterhooklaw17_TimerOrder.l0] at h⟩
  | k + 1 => by
    obtain ⟨ih0, ih1⟩ := tenterhooklaw17_TimerOrder.mono_l k
    refine ⟨?_, ?_⟩
    · intro y0 y1 y2 y3 y4
      unfold tenterhooklaw17_TimerOrder.j0
      repeat' first
      | (with_reducible exact ih0 _ _ _ _ _)
      | (with_reducible exact ih1 _ _ _ _ _ _ _ _ _ _ _)
      | (with_reducible exact tenterhooklaw17_awake.mono _)
      | (with_reducible exact tenterhooklaw17_naps.mono _ _)
      | (with_reducible exact tenterhooklaw17_slept.mono _ _)
      | (with_reducible exact tenterhookref17_Same.mono _ _ _)
      | (with_reducible exact timer_Put.mono _ _ _ _)
      | (with_reducible exact LeO.refl _)
      | (with_reducible exact LeO.none _)
      | (with_reducible refine LeO.ite ?_ ?_)
      | (with_reducible refine LeO.bind ?_ (fun _ => ?_))
      | exact ih0 _ _ _ _ _
      | exact ih1 _ _ _ _ _ _ _ _ _ _ _
      | exact tenterhooklaw17_awake.mono _
      | exact tenterhooklaw17_naps.mono _ _
      | exact tenterhooklaw17_slept.mono _ _
      | exact tenterhookref17_Same.mono _ _ _
      | exact timer_Put.mono _ _ _ _
      | exact LeO.none _
      | refine LeO.ite ?_ ?_
      | refine LeO.bind ?_ (fun _ => ?_)
    · intro y0 y1 y2 y3 y4 y5 y6 y7 y8 y9 y10
      unfold tenterhooklaw17_TimerOrder.l0
      repeat' first
      | (with_reducible exact ih0 _ _ _ _ _)
      | (with_reducible exact ih1 _ _ _ _ _ _ _ _ _ _ _)
      | (with_reducible exact tenterhooklaw17_awake.mono _)
      | (with_reducible exact tenterhooklaw17_naps.mono _ _)
      | (with_reducible exact tenterhooklaw17_slept.mono _ _)
      | (with_reducible exact tenterhookref17_Same.mono _ _ _)
      | (with_reducible exact timer_Put.mono _ _ _ _)
      | (with_reducible exact LeO.refl _)
      | (with_reducible exact LeO.none _)
      | (with_reducible refine LeO.ite ?_ ?_)
      | (with_reducible refine LeO.bind ?_ (fun _ => ?_))
      | exact ih0 _ _ _ _ _
      | exact ih1 _ _ _ _ _ _ _ _ _ _ _
      | exact tenterhooklaw17_awake.mono _
      | exact tenterhooklaw17_naps.mono _ _
      | exact tenterhooklaw17_slept.mono _ _
      | exact tenterhookref17_Same.mono _ _ _
      | exact timer_Put.mono _ _ _ _
      | exact LeO.none _
      | refine LeO.ite ?_ ?_
      | refine LeO.bind ?_ (fun _ => ?_)
theorem tenterhooklaw17_TimerOrder.mono : ∀ a0 a1 a2 k, LeO (tenterhooklaw17_TimerOrder.f k a0 a1 a2) (tenterhooklaw17_TimerOrder.f (k + 1) a0 a1 a2) := by
  intro a0 a1 a2 k
  obtain ⟨ih0, ih1⟩ := tenterhooklaw17_TimerOrder.mono_l k
  unfold tenterhooklaw17_TimerOrder.f
  repeat' first
      | (with_reducible exact ih0 _ _ _ _ _)
      | (with_reducible exact ih1 _ _ _ _ _ _ _ _ _ _ _)
      | (with_reducible exact tenterhooklaw17_awake.mono _)
      | (with_reducible exact tenterhooklaw17_naps.mono _ _)
      | (with_reducible exact tenterhooklaw17_slept.mono _ _)
      | (with_reducible exact tenterhookref17_Same.mono _ _ _)
      | (with_reducible exact timer_Put.mono _ _ _ _)
      | (with_reducible exact LeO.refl _)
      | (with_reducible exact LeO.none _)
      | (with_reducible refine LeO.ite ?_ ?_)
      | (with_reducible refine LeO.bind ?_ (fun _ => ?_))
      | exact ih0 _ _ _ _ _
      | exact ih1 _ _ _ _ _ _ _ _ _ _ _
      | exact tenterhooklaw17_awake.mono _
      | exact tenterhooklaw17_naps.mono _ _
      | exact tenterhooklaw17_slept.mono _ _
      | exact tenterhookref17_Same.mono _ _ _
      | exact timer_Put.mono _ _ _ _
      | exact LeO.none _
      | refine LeO.ite ?_ ?_
      | refine LeO.bind ?_ (fun _ => ?_)
set_option maxHeartbeats 8000000 in
set_option maxRecDepth 100000 in
theorem tenterhooklaw17_TimerOrder.calls_true (k : Nat) (A0 : Option Addr) (c0 : Nat) (l0 : List (S61)) (a1 : Int) (a2 : Int) (r : Bool) (w : World) (hr0 : Kd.C k61 w A0 l0.length l0) (hc0 : l0.length ≤ c0) (hr : r = true) (h : tenterhooklaw17_TimerOrder.f k l0 a1 a2 = some r) :
    Calls Try.prog 6 #[.slice A0 l0.length c0, .int .i64 a1, .int .i64 a2] w fun e w' => e = .returned (.bool r) ∧ Below w.heap.size w w' := by
  have HR0 := Aside0.mk hr0
  have HC0 := Aside0.mk hc0
  clear hr0 hc0
  have HB := Aside0.mk (Below.refl w.heap.size w)
  have H : ((tenterhooklaw17_awake.f k).bind fun t345 => (if (l0.length : Int) > 30 then (tenterhooklaw17_TimerOrder.j0 k l0 a1 a2 t345 true) else ((tenterhooklaw17_naps.f k l0).bind fun t346 => ((timer_Sane.f t346).bind fun t349 => (tenterhooklaw17_TimerOrder.j0 k l0 a1 a2 t345 (!t349)))))) = some r := h
  clear h
  replace H := Option.bind_eq_some_iff.mp H
  obtain ⟨t345, A40, H⟩ := H
  replace H : (if (l0.length : Int) > 30 then (tenterhooklaw17_TimerOrder.j0 k l0 a1 a2 t345 true) else ((tenterhooklaw17_naps.f k l0).bind fun t346 => ((timer_Sane.f t346).bind fun t349 => (tenterhooklaw17_TimerOrder.j0 k l0 a1 a2 t345 (!t349))))) = some r := H
  have A4 := Aside0.mk A40
  clear A40
  have HC5 := Aside0.mk H
  clear H
  go_enter Try.func6, Try.ntmps6
  go_upto_region 2 with (first | ((with_reducible refine gate_callee (f := 7) rfl ?_); refine goesL_ (some 16) rfl rfl Try.func7 (by kernel_rfl) rfl #[] rfl (by (try simp only [List.map_toArray, List.map_cons, List.map_nil]); first | done | rfl | (simp only [List.length_drop, List.length_take]; rfl)) ?_; (with_reducible refine (tenterhooklaw17_awake.calls k  t345 _ A4.out).mono ?_); rintro e w6 ⟨rfl, hb⟩; clear A4; refine ⟨_, rfl, ?_⟩; have n0_ := Aside0.mk (below_step (by repeat (first | (with_reducible first | exact HB.out | apply below_alloc | apply pw_below_drewN | apply below_drew1) | exact HB.out)) hb); clear HB; have HB := n0_; clear n0_; (try clear hb); (try clear hb2); (try clear hk); (try clear hi)))
  (try simp only [Act.put, List.setIfInBounds_toArray, List.set_cons_zero, List.set_cons_succ])
  go_cut [25] (fun v25 wc => ∃ (kq : Nat) (x25_4 : Bool), v25 = .bool x25_4 ∧ Aside0 (tenterhooklaw17_TimerOrder.j0 kq l0 a1 a2 t345 x25_4 = some r) ∧ Aside0 (kq ≤ k) ∧ Aside0 (Below w.heap.size w wc))
  case first =>
    have H := HC5.out
    clear HC5
    by_cases c7 : (l0.length : Int) > 30
    · rw [if_pos c7] at H
      have c7b0 : decide (30 < (l0.length : Int)) = true := decide_eq_true c7
      have c7b1 : decide (30 < l0.length) = true := decide_eq_true (by omega)
      clear c7
      (first | rw [c7b0] | (simp only [i64_w, i32_w]; rw [c7b0]) | skip)
      have H' := Aside0.mk H
      clear H
      go_wp2
      go_meet
      case rel => exact ⟨_, (true), (by first | rfl | (simp; done) | (simp [*]; done)), H', ⟨by first | omega | exact Nat.le_refl _⟩, ⟨by repeat (first | (with_reducible first | exact HB.out | apply below_alloc | apply pw_below_drewN | apply below_drew1) | exact HB.out)⟩⟩
    · rw [if_neg c7] at H
      have c7b0 : decide (30 < (l0.length : Int)) = false := decide_eq_false c7
      have c7b1 : decide (30 < l0.length) = false := decide_eq_false (by omega)
      clear c7
      (first | rw [c7b0] | (simp only [i64_w, i32_w]; rw [c7b0]) | skip)
      replace H := Option.bind_eq_some_iff.mp H
      obtain ⟨t346, A80, H⟩ := H
      replace H : ((timer_Sane.f t346).bind fun t349 => (tenterhooklaw17_TimerOrder.j0 k l0 a1 a2 t345 (!t349))) = some r := H
      have A8 := Aside0.mk A80
      clear A80
      replace H := Option.bind_eq_some_iff.mp H
      obtain ⟨t349, A90, H⟩ := H
      replace H : (tenterhooklaw17_TimerOrder.j0 k l0 a1 a2 t345 (!t349)) = some r := H
      have A9 := Aside0.mk A90
      clear A90
      have H' := Aside0.mk H
      clear H
      go_wp2_with (first | (go_at_call 11; (with_reducible refine (tenterhooklaw17_naps.calls k _ _ l0 t346 _ ?side1 ?side2 A8.out).mono ?_); (case side1 => repeat (first | exact (Kd.C_below HR0.out HB.out) | (with_reducible refine Kd.C_alloc ?_ _) | (with_reducible refine Kd.C_drewN ?_ _) | (with_reducible refine Kd.C_drew ?_))); (case side2 => exact HC0.out); rintro e w10 ⟨v347, rfl, ho0, hb⟩; clear A8; have n0_ := Aside0.mk (Kd.R_lower ho0 (below_size (by repeat (first | (with_reducible first | exact HB.out | apply below_alloc | apply pw_below_drewN | apply below_drew1) | exact HB.out)))); have n1_ := Aside0.mk (below_step (by repeat (first | (with_reducible first | exact HB.out | apply below_alloc | apply pw_below_drewN | apply below_drew1) | exact HB.out)) hb); clear HB; have HO348 := n0_; have HB := n1_; clear n0_ n1_; (try clear hb); (try clear hb2); (try clear hk); (try clear hi); (try clear ho0); obtain ⟨Ao11, co11, eo11⟩ := Kd.R_slice HO348.out; subst eo11) | (go_at_call 10; (with_reducible refine (timer_Sane.calls _ _ t346 t349 _ ?side1 ?side2 A9.out).mono ?_); (case side1 => repeat (first | exact (Kd.R_reads' HO348.out).2.2 | (with_reducible refine Kd.C_alloc ?_ _) | (with_reducible refine Kd.C_drewN ?_ _) | (with_reducible refine Kd.C_drew ?_))); (case side2 => exact (Kd.R_reads' HO348.out).2.1); rintro e w12 ⟨rfl, hb⟩; clear A9; have n0_ := Aside0.mk (Kd.R_below (by (with_reducible repeat (first | apply Kd.R_alloc | apply Kd.R_drewN | apply Kd.R_drew)); exact HO348.out) hb); have n1_ := Aside0.mk (below_step (by repeat (first | (with_reducible first | exact HB.out | apply below_alloc | apply pw_below_drewN | apply below_drew1) | exact HB.out)) hb); clear HO348; clear HB; have HO348 := n0_; have HB := n1_; clear n0_ n1_; (try clear hb); (try clear hb2); (try clear hk); (try clear hi)))
      go_meet
      case rel => exact ⟨_, (!t349), (by first | rfl | (simp; done) | (simp [*]; done)), H', ⟨by first | omega | exact Nat.le_refl _⟩, ⟨by repeat (first | (with_reducible first | exact HB.out | apply below_alloc | apply pw_below_drewN | apply below_drew1) | exact HB.out)⟩⟩
  case rest =>
    clear HC5
    try clear p2
    try clear c6
    try clear c7
    try clear c7b0
    try clear c7b1
    obtain ⟨kq, x25_4, rfl, HA, HJ4, HB⟩ := hcut
    cases kq with
    | zero => exact absurd HA.out (by simp [tenterhooklaw17_TimerOrder.j0])
    | succ kj4 =>
      have H := HA.out
      clear HA
      simp only [tenterhooklaw17_TimerOrder.j0] at H
      by_cases c13 : x25_4 = true
      · subst c13
        have H1 : (some t345) = some r := by rw [if_pos rfl] at H; exact H
        clear H
        have H := H1
        clear H1
        obtain rfl := Option.some.inj H
        go_wp2
        go_ret
        exact ⟨by first | rfl | (simp [errW_none, errW_some] <;> rfl) | (simp [*, errW_none, errW_some] <;> rfl), by repeat (first | (with_reducible first | exact HB.out | apply below_alloc | apply pw_below_drewN | apply below_drew1) | exact HB.out)⟩
      · replace c13 := Bool.eq_false_iff.mpr c13
        subst c13
        have H1 : ((tenterhooklaw17_naps.f kj4 l0).bind fun t350 => ((timer_Put.f kj4 t350 a1 a2).bind fun bt353 => (if bt353.2 = true then ((timer_Drop.f bt353.1 a1).bind fun bt361 => ((timer_Next.f bt353.1).bind fun bt365 => (tenterhooklaw17_TimerOrder.l0 kj4 l0 a1 a2 t345 bt353.1 bt361.1 bt361.2 bt365.1 bt365.2 false 0))) else (if t345 = true then ((tenterhooklaw17_slept.f kj4 bt353.1).bind fun t357 => ((tenterhookref17_Same.f kj4 t357 l0).bind fun t360 => (some t360))) else (some false))))) = some r := by rw [if_neg (show ¬ (false = true) by decide)] at H; exact H
        clear H
        have H := H1
        clear H1
        replace H := Option.bind_eq_some_iff.mp H
        obtain ⟨t350, A140, H⟩ := H
        replace H : ((timer_Put.f kj4 t350 a1 a2).bind fun bt353 => (if bt353.2 = true then ((timer_Drop.f bt353.1 a1).bind fun bt361 => ((timer_Next.f bt353.1).bind fun bt365 => (tenterhooklaw17_TimerOrder.l0 kj4 l0 a1 a2 t345 bt353.1 bt361.1 bt361.2 bt365.1 bt365.2 false 0))) else (if t345 = true then ((tenterhooklaw17_slept.f kj4 bt353.1).bind fun t357 => ((tenterhookref17_Same.f kj4 t357 l0).bind fun t360 => (some t360))) else (some false)))) = some r := H
        have A14 := Aside0.mk A140
        clear A140
        replace H := Option.bind_eq_some_iff.mp H
        obtain ⟨⟨t353, t356⟩, A150, H⟩ := H
        replace H : (if t356 = true then ((timer_Drop.f t353 a1).bind fun bt361 => ((timer_Next.f t353).bind fun bt365 => (tenterhooklaw17_TimerOrder.l0 kj4 l0 a1 a2 t345 t353 bt361.1 bt361.2 bt365.1 bt365.2 false 0))) else (if t345 = true then ((tenterhooklaw17_slept.f kj4 t353).bind fun t357 => ((tenterhookref17_Same.f kj4 t357 l0).bind fun t360 => (some t360))) else (some false))) = some r := H
        have A15 := Aside0.mk A150
        clear A150
        by_cases c16 : t356 = true
        · subst c16
          have H1 : ((timer_Drop.f t353 a1).bind fun bt361 => ((timer_Next.f t353).bind fun bt365 => (tenterhooklaw17_TimerOrder.l0 kj4 l0 a1 a2 t345 t353 bt361.1 bt361.2 bt365.1 bt365.2 false 0))) = some r := by rw [if_pos rfl] at H; exact H
          clear H
          have H := H1
          clear H1
          replace H := Option.bind_eq_some_iff.mp H
          obtain ⟨⟨t361, t364⟩, A170, H⟩ := H
          replace H : ((timer_Next.f t353).bind fun bt365 => (tenterhooklaw17_TimerOrder.l0 kj4 l0 a1 a2 t345 t353 t361 t364 bt365.1 bt365.2 false 0)) = some r := H
          have A17 := Aside0.mk A170
          clear A170
          replace H := Option.bind_eq_some_iff.mp H
          obtain ⟨⟨t365, t366⟩, A180, H⟩ := H
          replace H : (tenterhooklaw17_TimerOrder.l0 kj4 l0 a1 a2 t345 t353 t361 t364 t365 t366 false 0) = some r := H
          have A18 := Aside0.mk A180
          clear A180
          have H' := Aside0.mk H
          clear H
          go_wp2_with (first | ((with_reducible refine gate_callee (f := 11) rfl ?_); refine goesL_ (some 29) rfl rfl Try.func11 (by kernel_rfl) rfl #[.slice A0 l0.length c0] rfl (by (try simp only [List.map_toArray, List.map_cons, List.map_nil]); first | done | rfl | (simp only [List.length_drop, List.length_take]; rfl)) ?_; (with_reducible refine (tenterhooklaw17_naps.calls kj4 _ _ l0 t350 _ ?side1 ?side2 A14.out).mono ?_); (case side1 => repeat (first | exact (Kd.C_below HR0.out HB.out) | (with_reducible refine Kd.C_alloc ?_ _) | (with_reducible refine Kd.C_drewN ?_ _) | (with_reducible refine Kd.C_drew ?_))); (case side2 => exact HC0.out); rintro e w19 ⟨v351, rfl, ho0, hb⟩; clear A14; refine ⟨_, rfl, ?_⟩; have n0_ := Aside0.mk (Kd.R_lower ho0 (below_size (by repeat (first | (with_reducible first | exact HB.out | apply below_alloc | apply pw_below_drewN | apply below_drew1) | exact HB.out)))); have n1_ := Aside0.mk (below_step (by repeat (first | (with_reducible first | exact HB.out | apply below_alloc | apply pw_below_drewN | apply below_drew1) | exact HB.out)) hb); clear HB; have HO352 := n0_; have HB := n1_; clear n0_ n1_; (try clear hb); (try clear hb2); (try clear hk); (try clear hi); (try clear ho0); obtain ⟨Ao20, co20, eo20⟩ := Kd.R_slice HO352.out; subst eo20) | ((with_reducible refine gate_callee (f := 8) rfl ?_); refine goesL_ (some 32) rfl rfl Try.func8 (by kernel_rfl) rfl #[.slice Ao20 t350.length co20, .int .i64 a1, .int .i64 a2] rfl (by (try simp only [List.map_toArray, List.map_cons, List.map_nil]); first | done | rfl | (simp only [List.length_drop, List.length_take]; rfl)) ?_; (with_reducible refine (timer_Put.calls kj4 (fun k_ => some k_ = (.slice Ao20 t350.length co20 : Value).ownBlock) _ _ t350 a1 a2 t353 true _ ?side1 A15.out).mono ?_); (case side1 => exact Kd.R_V (Kd.R_tight rfl (HO352.out))); rintro e w21 ⟨v354, rfl, ho0, hb⟩; clear A15; refine ⟨_, rfl, ?_⟩; have n0_ := Aside0.mk (Kd.R_below (by (with_reducible repeat (first | apply Kd.R_alloc | apply Kd.R_drewN | apply Kd.R_drew)); exact HO352.out) hb); have n1_ := Aside0.mk (Kd.V_lower (Kd.V_mono (ok' := fun k_ => True) ho0 (fun k_ hk_ => trivial)) (below_size (by repeat (first | (with_reducible first | exact HB.out | apply below_alloc | apply pw_below_drewN | apply below_drew1) | exact HB.out)))); have n2_ := Aside0.mk (below_step (by repeat (first | (with_reducible first | exact HB.out | apply below_alloc | apply pw_below_drewN | apply below_drew1) | exact HB.out)) hb); clear HO352; clear HB; have HO352 := n0_; have HO355 := n1_; have HB := n2_; clear n0_ n1_ n2_; (try clear hb); (try clear hb2); (try clear hk); (try clear hi); (try clear ho0); obtain ⟨Ao22, co22, eo22⟩ := Kd.V_slice HO355.out; subst eo22) | ((with_reducible refine gate_callee (f := 16) rfl ?_); refine goesL_ (some 47) rfl rfl Try.func16 (by kernel_rfl) rfl #[.slice Ao22 t353.length co22, .int .i64 a1] rfl (by (try simp only [List.map_toArray, List.map_cons, List.map_nil]); first | done | rfl | (simp only [List.length_drop, List.length_take]; rfl)) ?_; (with_reducible refine (timer_Drop.calls _ _ t353 a1 t361 t364 _ ?side1 ?side2 A17.out).mono ?_); (case side1 => repeat (first | exact (Kd.V_reads' HO355.out).2.2 | (with_reducible refine Kd.C_alloc ?_ _) | (with_reducible refine Kd.C_drewN ?_ _) | (with_reducible refine Kd.C_drew ?_))); (case side2 => exact (Kd.V_reads' HO355.out).2.1); rintro e w23 ⟨v362, rfl, ho0, hb⟩; clear A17; refine ⟨_, rfl, ?_⟩; have n0_ := Aside0.mk (Kd.R_below (by (with_reducible repeat (first | apply Kd.R_alloc | apply Kd.R_drewN | apply Kd.R_drew)); exact HO352.out) hb); have n1_ := Aside0.mk (Kd.V_below (by (with_reducible repeat (first | apply Kd.V_alloc | apply Kd.V_drewN | apply Kd.V_drew)); exact HO355.out) hb); have n2_ := Aside0.mk (Kd.V_lower (Kd.V_mono (ok' := fun k_ => some k_ ≠ (.slice Ao20 t350.length co20 : Value).ownBlock) ho0 (fun k_ hk_ => (Kd.fresh' (Kd.R_lt (by (with_reducible repeat (first | apply Kd.R_alloc | apply Kd.R_drewN | apply Kd.R_drew)); exact HO352.out)) k_ hk_))) (below_size (by repeat (first | (with_reducible first | exact HB.out | apply below_alloc | apply pw_below_drewN | apply below_drew1) | exact HB.out)))); have n3_ := Aside0.mk (below_step (by repeat (first | (with_reducible first | exact HB.out | apply below_alloc | apply pw_below_drewN | apply below_drew1) | exact HB.out)) hb); clear HO352; clear HO355; clear HB; have HO352 := n0_; have HO355 := n1_; have HO363 := n2_; have HB := n3_; clear n0_ n1_ n2_ n3_; (try clear hb); (try clear hb2); (try clear hk); (try clear hi); (try clear ho0)) | ((with_reducible refine gate_callee (f := 18) rfl ?_); refine goesL_ (some 52) rfl rfl Try.func18 (by kernel_rfl) rfl #[.slice Ao22 t353.length co22] rfl (by (try simp only [List.map_toArray, List.map_cons, List.map_nil]); first | done | rfl | (simp only [List.length_drop, List.length_take]; rfl)) ?_; (with_reducible refine (timer_Next.calls _ _ t353 t365 t366 _ ?side1 ?side2 A18.out).mono ?_); (case side1 => repeat (first | exact (Kd.V_reads' HO355.out).2.2 | (with_reducible refine Kd.C_alloc ?_ _) | (with_reducible refine Kd.C_drewN ?_ _) | (with_reducible refine Kd.C_drew ?_))); (case side2 => exact (Kd.V_reads' HO355.out).2.1); rintro e w24 ⟨rfl, hb⟩; clear A18; refine ⟨_, rfl, ?_⟩; have n0_ := Aside0.mk (Kd.R_below (by (with_reducible repeat (first | apply Kd.R_alloc | apply Kd.R_drewN | apply Kd.R_drew)); exact HO352.out) hb); have n1_ := Aside0.mk (Kd.V_below (by (with_reducible repeat (first | apply Kd.V_alloc | apply Kd.V_drewN | apply Kd.V_drew)); exact HO355.out) hb); have n2_ := Aside0.mk (Kd.V_below (by (with_reducible repeat (first | apply Kd.V_alloc | apply Kd.V_drewN | apply Kd.V_drew)); exact HO363.out) hb); have n3_ := Aside0.mk (below_step (by repeat (first | (with_reducible first | exact HB.out | apply below_alloc | apply pw_below_drewN | apply below_drew1) | exact HB.out)) hb); clear HO352; clear HO355; clear HO363; clear HB; have HO352 := n0_; have HO355 := n1_; have HO363 := n2_; have HB := n3_; clear n0_ n1_ n2_ n3_; (try clear hb); (try clear hb2); (try clear hk); (try clear hi)))
          go_loopg [14, 15] kj4 (fun kq v14 v15 w' => ∃ (x14_2 : Bool) (x15_2 : Int), v14 = .bool x14_2 ∧ v15 = .int .i64 x15_2 ∧ Aside0 (tenterhooklaw17_TimerOrder.l0 kq l0 a1 a2 t345 t353 t361 t364 t365 t366 x14_2 x15_2 = some r) ∧ Aside0 (kq ≤ kj4) ∧ Aside0 (Kd.V k49 49 w' w.heap.size (fun _ => True) (.slice Ao22 t353.length co22) t353) ∧ Aside0 (Kd.V k49 49 w' w.heap.size (fun _ => True) v362 t361) ∧ Aside0 (Below w.heap.size w w'))
          case atStart => exact ⟨(false), (0), (by first | rfl | (simp; done) | (simp [*]; done)), (by first | rfl | (simp; done) | (simp [*]; done)), H', ⟨Nat.le_refl _⟩, ⟨by (with_reducible repeat (first | apply Kd.V_alloc | apply Kd.V_drewN | apply Kd.V_drew)); exact HO355.out⟩, ⟨by (with_reducible repeat (first | apply Kd.V_alloc | apply Kd.V_drewN | apply Kd.V_drew)); exact Kd.V_mono HO363.out (fun _ hk => trivial)⟩, ⟨by repeat (first | (with_reducible first | exact HB.out | apply below_alloc | apply pw_below_drewN | apply below_drew1) | exact HB.out)⟩⟩
          case round =>
            clear H'
            try clear c1
            try clear p2
            try clear c6
            try clear c7
            try clear c7b0
            try clear c7b1
            try clear c8
            try clear c11
            try clear c13
            try clear c16
            try clear c18
            try clear p2
            obtain ⟨x14_2, x15_2, rfl, rfl, HA, HK2, HO_8, HO_10, HB⟩ := hrel
            cases gk with
            | zero => exact absurd HA.out (by simp [tenterhooklaw17_TimerOrder.l0])
            | succ k2 =>
              have H := HA.out
              clear HA
              simp only [tenterhooklaw17_TimerOrder.l0] at H
              by_cases c25 : x15_2 < (t353.length : Int)
              · rw [if_pos c25] at H
                have c25b0 : decide (x15_2 < (t353.length : Int)) = true := decide_eq_true c25
                clear c25
                by_cases c26 : 0 ≤ x15_2
                · rw [if_pos c26] at H
                  have c26b0 : decide (0 ≤ x15_2) = true := decide_eq_true c26
                  clear c26
                  by_cases c27 : ((rd_T49 t353 x15_2).f1) < t365
                  · rw [if_pos c27] at H
                    exact absurd ((Option.some.inj H).trans hr) (by decide)
                  · rw [if_neg c27] at H
                    have c27b0 : decide (((rd_T49 t353 x15_2).f1) < t365) = false := decide_eq_false c27
                    clear c27
                    by_cases c28 : x14_2 = true
                    · subst c28
                      have H1 : (if ((rd_T49 t353 x15_2).f1) ≤ a2 then (some false) else (tenterhooklaw17_TimerOrder.l0 k2 l0 a1 a2 t345 t353 t361 t364 t365 t366 true (wrap64 (x15_2 + 1)))) = some r := by rw [if_pos rfl] at H; exact H
                      clear H
                      have H := H1
                      clear H1
                      by_cases c29 : ((rd_T49 t353 x15_2).f1) ≤ a2
                      · rw [if_pos c29] at H
                        exact absurd ((Option.some.inj H).trans hr) (by decide)
                      · rw [if_neg c29] at H
                        have c29b0 : decide (((rd_T49 t353 x15_2).f1) ≤ a2) = false := decide_eq_false c29
                        clear c29
                        have H' := Aside0.mk H
                        clear H
                        have p367 : 0 ≤ (x15_2 : Int) := of_decide_eq_true (by first | (with_reducible assumption) | assumption)
                        have q367 : x15_2 < (t353.length : Int) := of_decide_eq_true (by first | (with_reducible assumption) | assumption)
                        obtain ⟨ad367, e367, hx367_0, hx367_1⟩ := at_T49 (Kd.V_reads' HO_8.out).2.2 x15_2 p367 q367
                        cases e367
                        replace p367 := eq_true p367
                        replace q367 := eq_true q367
                        have p368 : 0 ≤ (x15_2 : Int) := of_decide_eq_true (by first | (with_reducible assumption) | assumption)
                        have q368 : x15_2 < (t353.length : Int) := of_decide_eq_true (by first | (with_reducible assumption) | assumption)
                        obtain ⟨ad368, e368, hx368_0, hx368_1⟩ := at_T49 (Kd.V_reads' HO_8.out).2.2 x15_2 p368 q368
                        obtain rfl : ad367 = ad368 := (by injection e368)
                        replace p368 := eq_true p368
                        replace q368 := eq_true q368
                        go_wp2
                        go_roundg k2
                        case measure => have := HJ4.out; have := HK2.out; omega
                        case rel => exact ⟨(true), (wrap64 (x15_2 + 1)), (by first | rfl | (simp; done) | (simp [*]; done)), (by first | rfl | (simp; done) | (simp [*]; done)), H', ⟨by have := HJ4.out; have := HK2.out; omega⟩, ⟨by (with_reducible repeat (first | apply Kd.V_alloc | apply Kd.V_drewN | apply Kd.V_drew)); exact HO_8.out⟩, ⟨by (with_reducible repeat (first | apply Kd.V_alloc | apply Kd.V_drewN | apply Kd.V_drew)); exact HO_10.out⟩, ⟨by repeat (first | (with_reducible first | exact HB.out | apply below_alloc | apply pw_below_drewN | apply below_drew1) | exact HB.out)⟩⟩
                    · replace c28 := Bool.eq_false_iff.mpr c28
                      subst c28
                      have H1 : (tenterhooklaw17_TimerOrder.l0 k2 l0 a1 a2 t345 t353 t361 t364 t365 t366 (((rd_T49 t353 x15_2).f0) == a1) (wrap64 (x15_2 + 1))) = some r := by rw [if_neg (show ¬ (false = true) by decide)] at H; exact H
                      clear H
                      have H := H1
                      clear H1
                      have H' := Aside0.mk H
                      clear H
                      have p367 : 0 ≤ (x15_2 : Int) := of_decide_eq_true (by first | (with_reducible assumption) | assumption)
                      have q367 : x15_2 < (t353.length : Int) := of_decide_eq_true (by first | (with_reducible assumption) | assumption)
                      obtain ⟨ad367, e367, hx367_0, hx367_1⟩ := at_T49 (Kd.V_reads' HO_8.out).2.2 x15_2 p367 q367
                      cases e367
                      replace p367 := eq_true p367
                      replace q367 := eq_true q367
                      have p369 : 0 ≤ (x15_2 : Int) := of_decide_eq_true (by first | (with_reducible assumption) | assumption)
                      have q369 : x15_2 < (t353.length : Int) := of_decide_eq_true (by first | (with_reducible assumption) | assumption)
                      obtain ⟨ad369, e369, hx369_0, hx369_1⟩ := at_T49 (Kd.V_reads' HO_8.out).2.2 x15_2 p369 q369
                      obtain rfl : ad367 = ad369 := (by injection e369)
                      replace p369 := eq_true p369
                      replace q369 := eq_true q369
                      go_wp2
                      go_roundg k2
                      case measure => have := HJ4.out; have := HK2.out; omega
                      case rel => exact ⟨((((rd_T49 t353 x15_2).f0) == a1)), (wrap64 (x15_2 + 1)), (by first | rfl | (simp; done) | (simp [*]; done)), (by first | rfl | (simp; done) | (simp [*]; done)), H', ⟨by have := HJ4.out; have := HK2.out; omega⟩, ⟨by (with_reducible repeat (first | apply Kd.V_alloc | apply Kd.V_drewN | apply Kd.V_drew)); exact HO_8.out⟩, ⟨by (with_reducible repeat (first | apply Kd.V_alloc | apply Kd.V_drewN | apply Kd.V_drew)); exact HO_10.out⟩, ⟨by repeat (first | (with_reducible first | exact HB.out | apply below_alloc | apply pw_below_drewN | apply below_drew1) | exact HB.out)⟩⟩
                · rw [if_neg c26] at H
                  exact absurd H (by simp)
              · rw [if_neg c25] at H
                have c25b0 : decide (x15_2 < (t353.length : Int)) = false := decide_eq_false c25
                clear c25
                by_cases c30 : t345 = true
                · subst c30
                  have H1 : (if t364 = true then (if t366 = true then ((tenterhooklaw17_slept.f k2 t361).bind fun t370 => ((tenterhookref17_Same.f k2 t370 l0).bind fun t373 => (if t373 = true then ((timer_Sane.f t353).bind fun t374 => (if t374 = true then (if (t353.length : Int) = (wrap64 ((l0.length : Int) + 1)) then (some x14_2) else (some false)) else (some false))) else (some false)))) else (some false)) else (some false)) = some r := by rw [if_pos rfl] at H; exact H
                  clear H
                  have H := H1
                  clear H1
                  by_cases c31 : t364 = true
                  · subst c31
                    have H1 : (if t366 = true then ((tenterhooklaw17_slept.f k2 t361).bind fun t370 => ((tenterhookref17_Same.f k2 t370 l0).bind fun t373 => (if t373 = true then ((timer_Sane.f t353).bind fun t374 => (if t374 = true then (if (t353.length : Int) = (wrap64 ((l0.length : Int) + 1)) then (some x14_2) else (some false)) else (some false))) else (some false)))) else (some false)) = some r := by rw [if_pos rfl] at H; exact H
                    clear H
                    have H := H1
                    clear H1
                    by_cases c32 : t366 = true
                    · subst c32
                      have H1 : ((tenterhooklaw17_slept.f k2 t361).bind fun t370 => ((tenterhookref17_Same.f k2 t370 l0).bind fun t373 => (if t373 = true then ((timer_Sane.f t353).bind fun t374 => (if t374 = true then (if (t353.length : Int) = (wrap64 ((l0.length : Int) + 1)) then (some x14_2) else (some false)) else (some false))) else (some false)))) = some r := by rw [if_pos rfl] at H; exact H
                      clear H
                      have H := H1
                      clear H1
                      replace H := Option.bind_eq_some_iff.mp H
                      obtain ⟨t370, A330, H⟩ := H
                      replace H : ((tenterhookref17_Same.f k2 t370 l0).bind fun t373 => (if t373 = true then ((timer_Sane.f t353).bind fun t374 => (if t374 = true then (if (t353.length : Int) = (wrap64 ((l0.length : Int) + 1)) then (some x14_2) else (some false)) else (some false))) else (some false))) = some r := H
                      have A33 := Aside0.mk A330
                      clear A330
                      replace H := Option.bind_eq_some_iff.mp H
                      obtain ⟨t373, A340, H⟩ := H
                      replace H : (if t373 = true then ((timer_Sane.f t353).bind fun t374 => (if t374 = true then (if (t353.length : Int) = (wrap64 ((l0.length : Int) + 1)) then (some x14_2) else (some false)) else (some false))) else (some false)) = some r := H
                      have A34 := Aside0.mk A340
                      clear A340
                      by_cases c35 : t373 = true
                      · subst c35
                        have H1 : ((timer_Sane.f t353).bind fun t374 => (if t374 = true then (if (t353.length : Int) = (wrap64 ((l0.length : Int) + 1)) then (some x14_2) else (some false)) else (some false))) = some r := by rw [if_pos rfl] at H; exact H
                        clear H
                        have H := H1
                        clear H1
                        replace H := Option.bind_eq_some_iff.mp H
                        obtain ⟨t374, A360, H⟩ := H
                        replace H : (if t374 = true then (if (t353.length : Int) = (wrap64 ((l0.length : Int) + 1)) then (some x14_2) else (some false)) else (some false)) = some r := H
                        have A36 := Aside0.mk A360
                        clear A360
                        by_cases c37 : t374 = true
                        · subst c37
                          have H1 : (if (t353.length : Int) = (wrap64 ((l0.length : Int) + 1)) then (some x14_2) else (some false)) = some r := by rw [if_pos rfl] at H; exact H
                          clear H
                          have H := H1
                          clear H1
                          by_cases c38 : (t353.length : Int) = (wrap64 ((l0.length : Int) + 1))
                          · rw [if_pos c38] at H
                            have c38b0 : ((t353.length : Int) == (wrap64 ((l0.length : Int) + 1))) = true := beq_iff_eq.mpr c38
                            have c38b1 : ((t353.length : Int) != (wrap64 ((l0.length : Int) + 1))) = false := bne_eq_false_iff_eq.mpr c38
                            clear c38
                            obtain rfl := Option.some.inj H
                            obtain ⟨Ao39, co39, eo39⟩ := Kd.V_slice HO_10.out
                            subst eo39
                            go_wp2_with (first | (go_at_call 13; (with_reducible refine (tenterhooklaw17_slept.calls k2 _ _ t361 t370 _ ?side1 ?side2 A33.out).mono ?_); (case side1 => repeat (first | exact (Kd.V_reads' HO_10.out).2.2 | (with_reducible refine Kd.C_alloc ?_ _) | (with_reducible refine Kd.C_drewN ?_ _) | (with_reducible refine Kd.C_drew ?_))); (case side2 => exact (Kd.V_reads' HO_10.out).2.1); rintro e w40 ⟨v371, rfl, ho0, hb⟩; clear A33; have n0_ := Aside0.mk (Kd.V_elder' (by (with_reducible repeat (first | apply Kd.V_alloc | apply Kd.V_drewN | apply Kd.V_drew)); exact HO_8.out) (Kd.R_base ho0) hb); have n1_ := Aside0.mk (Kd.V_elder' (by (with_reducible repeat (first | apply Kd.V_alloc | apply Kd.V_drewN | apply Kd.V_drew)); exact HO_10.out) (Kd.R_base ho0) hb); have n2_ := Aside0.mk (Kd.R_lower ho0 (below_size (by repeat (first | (with_reducible first | exact HB.out | apply below_alloc | apply pw_below_drewN | apply below_drew1) | exact HB.out)))); have n3_ := Aside0.mk (below_step (by repeat (first | (with_reducible first | exact HB.out | apply below_alloc | apply pw_below_drewN | apply below_drew1) | exact HB.out)) hb); clear HO_8; clear HO_10; clear HB; have HO_8 := n0_; have HO_10 := n1_; have HO372 := n2_; have HB := n3_; clear n0_ n1_ n2_ n3_; (try clear hb); (try clear hb2); (try clear hk); (try clear hi); (try clear ho0); obtain ⟨Ao41, co41, eo41⟩ := Kd.R_slice HO372.out; subst eo41) | (go_at_call 12; (with_reducible refine (tenterhookref17_Same.calls k2 _ _ t370 _ _ l0 true _ ?side1 ?side2 ?side3 ?side4 A34.out).mono ?_); (case side1 => repeat (first | exact (Kd.R_reads' HO372.out).2.2 | (with_reducible refine Kd.C_alloc ?_ _) | (with_reducible refine Kd.C_drewN ?_ _) | (with_reducible refine Kd.C_drew ?_))); (case side2 => exact (Kd.R_reads' HO372.out).2.1); (case side3 => repeat (first | exact (Kd.C_below HR0.out HB.out) | (with_reducible refine Kd.C_alloc ?_ _) | (with_reducible refine Kd.C_drewN ?_ _) | (with_reducible refine Kd.C_drew ?_))); (case side4 => exact HC0.out); rintro e w' ⟨rfl, ⟨nd, rfl⟩⟩) | (go_at_call 10; (with_reducible refine (timer_Sane.calls _ _ t353 true _ ?side1 ?side2 A36.out).mono ?_); (case side1 => repeat (first | exact (Kd.V_reads' HO_8.out).2.2 | (with_reducible refine Kd.C_alloc ?_ _) | (with_reducible refine Kd.C_drewN ?_ _) | (with_reducible refine Kd.C_drew ?_))); (case side2 => exact (Kd.V_reads' HO_8.out).2.1); rintro e w42 ⟨rfl, hb⟩; clear A36; have n0_ := Aside0.mk (Kd.V_below (by (with_reducible repeat (first | apply Kd.V_alloc | apply Kd.V_drewN | apply Kd.V_drew)); exact HO_8.out) hb); have n1_ := Aside0.mk (Kd.V_below (by (with_reducible repeat (first | apply Kd.V_alloc | apply Kd.V_drewN | apply Kd.V_drew)); exact HO_10.out) hb); have n2_ := Aside0.mk (Kd.R_below (by (with_reducible repeat (first | apply Kd.R_alloc | apply Kd.R_drewN | apply Kd.R_drew)); exact HO372.out) hb); have n3_ := Aside0.mk (below_step (by repeat (first | (with_reducible first | exact HB.out | apply below_alloc | apply pw_below_drewN | apply below_drew1) | exact HB.out)) hb); clear HO_8; clear HO_10; clear HO372; clear HB; have HO_8 := n0_; have HO_10 := n1_; have HO372 := n2_; have HB := n3_; clear n0_ n1_ n2_ n3_; (try clear hb); (try clear hb2); (try clear hk); (try clear hi)))
                            go_ret
                            exact ⟨by first | rfl | (simp [errW_none, errW_some] <;> rfl) | (simp [*, errW_none, errW_some] <;> rfl), by repeat (first | (with_reducible first | exact HB.out | apply below_alloc | apply pw_below_drewN | apply below_drew1) | exact HB.out)⟩
                          · rw [if_neg c38] at H
                            exact absurd ((Option.some.inj H).trans hr) (by decide)
                        · replace c37 := Bool.eq_false_iff.mpr c37
                          subst c37
                          have H1 : (some false) = some r := by rw [if_neg (show ¬ (false = true) by decide)] at H; exact H
                          clear H
                          have H := H1
                          exact absurd ((Option.some.inj H).trans hr) (by decide)
                      · replace c35 := Bool.eq_false_iff.mpr c35
                        subst c35
                        have H1 : (some false) = some r := by rw [if_neg (show ¬ (false = true) by decide)] at H; exact H
                        clear H
                        have H := H1
                        exact absurd ((Option.some.inj H).trans hr) (by decide)
                    · replace c32 := Bool.eq_false_iff.mpr c32
                      subst c32
                      have H1 : (some false) = some r := by rw [if_neg (show ¬ (false = true) by decide)] at H; exact H
                      clear H
                      have H := H1
                      exact absurd ((Option.some.inj H).trans hr) (by decide)
                  · replace c31 := Bool.eq_false_iff.mpr c31
                    subst c31
                    have H1 : (some false) = some r := by rw [if_neg (show ¬ (false = true) by decide)] at H; exact H
                    clear H
                    have H := H1
                    exact absurd ((Option.some.inj H).trans hr) (by decide)
                · replace c30 := Bool.eq_false_iff.mpr c30
                  subst c30
                  have H1 : (some false) = some r := by rw [if_neg (show ¬ (false = true) by decide)] at H; exact H
                  clear H
                  have H := H1
                  exact absurd ((Option.some.inj H).trans hr) (by decide)
        · replace c16 := Bool.eq_false_iff.mpr c16
          subst c16
          have H1 : (if t345 = true then ((tenterhooklaw17_slept.f kj4 t353).bind fun t357 => ((tenterhookref17_Same.f kj4 t357 l0).bind fun t360 => (some t360))) else (some false)) = some r := by rw [if_neg (show ¬ (false = true) by decide)] at H; exact H
          clear H
          have H := H1
          clear H1
          by_cases c54 : t345 = true
          · subst c54
            have H1 : ((tenterhooklaw17_slept.f kj4 t353).bind fun t357 => ((tenterhookref17_Same.f kj4 t357 l0).bind fun t360 => (some t360))) = some r := by rw [if_pos rfl] at H; exact H
            clear H
            have H := H1
            clear H1
            replace H := Option.bind_eq_some_iff.mp H
            obtain ⟨t357, A550, H⟩ := H
            replace H : ((tenterhookref17_Same.f kj4 t357 l0).bind fun t360 => (some t360)) = some r := H
            have A55 := Aside0.mk A550
            clear A550
            replace H := Option.bind_eq_some_iff.mp H
            obtain ⟨t360, A560, H⟩ := H
            replace H : (some t360) = some r := H
            have A56 := Aside0.mk A560
            clear A560
            obtain rfl := Option.some.inj H
            go_wp2_with (first | ((with_reducible refine gate_callee (f := 11) rfl ?_); refine goesL_ (some 29) rfl rfl Try.func11 (by kernel_rfl) rfl #[.slice A0 l0.length c0] rfl (by (try simp only [List.map_toArray, List.map_cons, List.map_nil]); first | done | rfl | (simp only [List.length_drop, List.length_take]; rfl)) ?_; (with_reducible refine (tenterhooklaw17_naps.calls kj4 _ _ l0 t350 _ ?side1 ?side2 A14.out).mono ?_); (case side1 => repeat (first | exact (Kd.C_below HR0.out HB.out) | (with_reducible refine Kd.C_alloc ?_ _) | (with_reducible refine Kd.C_drewN ?_ _) | (with_reducible refine Kd.C_drew ?_))); (case side2 => exact HC0.out); rintro e w57 ⟨v351, rfl, ho0, hb⟩; clear A14; refine ⟨_, rfl, ?_⟩; have n0_ := Aside0.mk (Kd.R_lower ho0 (below_size (by repeat (first | (with_reducible first | exact HB.out | apply below_alloc | apply pw_below_drewN | apply below_drew1) | exact HB.out)))); have n1_ := Aside0.mk (below_step (by repeat (first | (with_reducible first | exact HB.out | apply below_alloc | apply pw_below_drewN | apply below_drew1) | exact HB.out)) hb); clear HB; have HO352 := n0_; have HB := n1_; clear n0_ n1_; (try clear hb); (try clear hb2); (try clear hk); (try clear hi); (try clear ho0); obtain ⟨Ao58, co58, eo58⟩ := Kd.R_slice HO352.out; subst eo58) | ((with_reducible refine gate_callee (f := 8) rfl ?_); refine goesL_ (some 32) rfl rfl Try.func8 (by kernel_rfl) rfl #[.slice Ao58 t350.length co58, .int .i64 a1, .int .i64 a2] rfl (by (try simp only [List.map_toArray, List.map_cons, List.map_nil]); first | done | rfl | (simp only [List.length_drop, List.length_take]; rfl)) ?_; (with_reducible refine (timer_Put.calls kj4 (fun k_ => some k_ = (.slice Ao58 t350.length co58 : Value).ownBlock) _ _ t350 a1 a2 t353 false _ ?side1 A15.out).mono ?_); (case side1 => exact Kd.R_V (Kd.R_tight rfl (HO352.out))); rintro e w59 ⟨v354, rfl, ho0, hb⟩; clear A15; refine ⟨_, rfl, ?_⟩; have n0_ := Aside0.mk (Kd.R_below (by (with_reducible repeat (first | apply Kd.R_alloc | apply Kd.R_drewN | apply Kd.R_drew)); exact HO352.out) hb); have n1_ := Aside0.mk (Kd.V_lower (Kd.V_mono (ok' := fun k_ => True) ho0 (fun k_ hk_ => trivial)) (below_size (by repeat (first | (with_reducible first | exact HB.out | apply below_alloc | apply pw_below_drewN | apply below_drew1) | exact HB.out)))); have n2_ := Aside0.mk (below_step (by repeat (first | (with_reducible first | exact HB.out | apply below_alloc | apply pw_below_drewN | apply below_drew1) | exact HB.out)) hb); clear HO352; clear HB; have HO352 := n0_; have HO355 := n1_; have HB := n2_; clear n0_ n1_ n2_; (try clear hb); (try clear hb2); (try clear hk); (try clear hi); (try clear ho0); obtain ⟨Ao60, co60, eo60⟩ := Kd.V_slice HO355.out; subst eo60) | (go_at_call 13; (with_reducible refine (tenterhooklaw17_slept.calls kj4 _ _ t353 t357 _ ?side1 ?side2 A55.out).mono ?_); (case side1 => repeat (first | exact (Kd.V_reads' HO355.out).2.2 | (with_reducible refine Kd.C_alloc ?_ _) | (with_reducible refine Kd.C_drewN ?_ _) | (with_reducible refine Kd.C_drew ?_))); (case side2 => exact (Kd.V_reads' HO355.out).2.1); rintro e w61 ⟨v358, rfl, ho0, hb⟩; clear A55; have n0_ := Aside0.mk (Kd.R_below (by (with_reducible repeat (first | apply Kd.R_alloc | apply Kd.R_drewN | apply Kd.R_drew)); exact HO352.out) hb); have n1_ := Aside0.mk (Kd.V_elder' (by (with_reducible repeat (first | apply Kd.V_alloc | apply Kd.V_drewN | apply Kd.V_drew)); exact HO355.out) (Kd.R_base ho0) hb); have n2_ := Aside0.mk (Kd.R_lower ho0 (below_size (by repeat (first | (with_reducible first | exact HB.out | apply below_alloc | apply pw_below_drewN | apply below_drew1) | exact HB.out)))); have n3_ := Aside0.mk (below_step (by repeat (first | (with_reducible first | exact HB.out | apply below_alloc | apply pw_below_drewN | apply below_drew1) | exact HB.out)) hb); clear HO352; clear HO355; clear HB; have HO352 := n0_; have HO355 := n1_; have HO359 := n2_; have HB := n3_; clear n0_ n1_ n2_ n3_; (try clear hb); (try clear hb2); (try clear hk); (try clear hi); (try clear ho0); obtain ⟨Ao62, co62, eo62⟩ := Kd.R_slice HO359.out; subst eo62) | (go_at_call 12; (with_reducible refine (tenterhookref17_Same.calls kj4 _ _ t357 _ _ l0 t360 _ ?side1 ?side2 ?side3 ?side4 A56.out).mono ?_); (case side1 => repeat (first | exact (Kd.R_reads' HO359.out).2.2 | (with_reducible refine Kd.C_alloc ?_ _) | (with_reducible refine Kd.C_drewN ?_ _) | (with_reducible refine Kd.C_drew ?_))); (case side2 => exact (Kd.R_reads' HO359.out).2.1); (case side3 => repeat (first | exact (Kd.C_below HR0.out HB.out) | (with_reducible refine Kd.C_alloc ?_ _) | (with_reducible refine Kd.C_drewN ?_ _) | (with_reducible refine Kd.C_drew ?_))); (case side4 => exact HC0.out); rintro e w' ⟨rfl, ⟨nd, rfl⟩⟩))
            go_ret
            exact ⟨by first | rfl | (simp [errW_none, errW_some] <;> rfl) | (simp [*, errW_none, errW_some] <;> rfl), by repeat (first | (with_reducible first | exact HB.out | apply below_alloc | apply pw_below_drewN | apply below_drew1) | exact HB.out)⟩
          · replace c54 := Bool.eq_false_iff.mpr c54
            subst c54
            have H1 : (some false) = some r := by rw [if_neg (show ¬ (false = true) by decide)] at H; exact H
            clear H
            have H := H1
            exact absurd ((Option.some.inj H).trans hr) (by decide)
end Go.Proofs.Ytinngbfkefaiiaa.P
