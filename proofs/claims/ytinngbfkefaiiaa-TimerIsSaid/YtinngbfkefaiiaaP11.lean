-- Written by a program of this session (xprint.py, asm.py).
import Derived.Test.YtinngbfkefaiiaaP0
import Derived.Test.YtinngbfkefaiiaaP1
import Derived.Test.YtinngbfkefaiiaaP9
import Derived.Test.YtinngbfkefaiiaaX
import Derived.Test.YtinngbfkefaiiaaS
import Derived.Test.YtinngbfkefaiiaaR
namespace Go.Proofs.Ytinngbfkefaiiaa.P
open Go.Proofs.YtinngbfkefaiiaaX Go.RowKit Go.Proofs.YtinngbfkefaiiaaW.PrintWords Go.Proofs.YtinngbfkefaiiaaW.PrintLast Go.Proofs.YtinngbfkefaiiaaW.PrintMore
attribute [local go_sem] max2_int min2_int max_two min_two max_three min_three max_four min_four   -- for this text's walks alone
attribute [local go_sem high] eqA61
set_option linter.unusedVariables false
set_option linter.unusedSimpArgs false

/-! ### tenterhookref17_Sane: function 21 -/
mutual
def tenterhookref17_Sane.l0 : Nat → List (S61) → Int → Option (Bool)
  | 0, _, _ => none
  | k + 1, x0, x3 => if x3 < (x0.length : Int) then (if 0 ≤ x3 then (if ((rd_T61 x0 x3).f0) < 0 then (tenterhookref17_Sane.j1 k x0 x3 true) else (if ((rd_T61 x0 x3).f0) > 7 then (tenterhookref17_Sane.j1 k x0 x3 true) else (if ((rd_T61 x0 x3).f1) < 0 then (tenterhookref17_Sane.j1 k x0 x3 true) else (if ((rd_T61 x0 x3).f1) > 1125899906842624 then (tenterhookref17_Sane.j1 k x0 x3 true) else (if x3 > 0 then (if 0 ≤ (wrap64 (x3 - 1)) then (if (wrap64 (x3 - 1)) < (x0.length : Int) then (tenterhookref17_Sane.j1 k x0 x3 (decide (((rd_T61 x0 x3).f1) < ((rd_T61 x0 (wrap64 (x3 - 1))).f1)))) else (none)) else (none)) else (tenterhookref17_Sane.j1 k x0 x3 false)))))) else (none)) else (some (decide ((x0.length : Int) ≤ 8)))
def tenterhookref17_Sane.j1 : Nat → List (S61) → Int → Bool → Option (Bool)
  | 0, _, _, _ => none
  | k + 1, x0, x3, x58 => if x58 = true then (some false) else (tenterhookref17_Sane.l1 k x0 x3 0)
def tenterhookref17_Sane.l1 : Nat → List (S61) → Int → Int → Option (Bool)
  | 0, _, _, _ => none
  | k + 1, x0, x3, x4 => if x4 < x3 then (if 0 ≤ x4 then (if x4 < (x0.length : Int) then (if 0 ≤ x3 then (if x3 < (x0.length : Int) then (if ((rd_T61 x0 x4).f0) = ((rd_T61 x0 x3).f0) then (some false) else (tenterhookref17_Sane.l1 k x0 x3 (wrap64 (x4 + 1)))) else (none)) else (none)) else (none)) else (none)) else (tenterhookref17_Sane.l0 k x0 (wrap64 (x3 + 1)))
end
def tenterhookref17_Sane.f (k : Nat) (l0 : List (S61)) : Option (Bool) := tenterhookref17_Sane.l0 k l0 0
theorem tenterhookref17_Sane.mono_l : ∀ k, (∀ y0 y1, LeO (tenterhookref17_Sane.l0 k y0 y1) (tenterhookref17_Sane.l0 (k + 1) y0 y1)) ∧ (∀ y0 y1 y2, LeO (tenterhookref17_Sane.j1 k y0 y1 y2) (tenterhookref17_Sane.j1 (k + 1) y0 y1 y2)) ∧ (∀ y0 y1 y2, LeO (tenterhookref17_Sane.l1 k y0 y1 y2) (tenterhookref17_Sane.l1 (k + 1) y0 y1 y2))
  | 0 => ⟨fun _ _ r h => by simp [tenterhookref17_Sane.l0] at h, fun _ _ _ r h => by simp [tenterhookref17_Sane.j1] at h, fun _ _ _ r h => by simp [tenterhookref17_Sane.l1] at h⟩
  | k + 1 => by
    obtain ⟨ih0, ih1, ih2⟩ := tenterhookref17_Sane.mono_l k
    refine ⟨?_, ?_, ?_⟩
    · intro y0 y1
      unfold tenterhookref17_Sane.l0
      repeat' first
      | (with_reducible exact ih0 _ _)
      | (with_reducible exact ih1 _ _ _)
      | (with_reducible exact ih2 _ _ _)
      | (with_reducible exact LeO.refl _)
      | (with_reducible exact LeO.none _)
      | (with_reducible refine LeO.ite ?_ ?_)
      | (with_reducible refine LeO.bind ?_ (fun _ => ?_))
      | exact ih0 _ _
      | exact ih1 _ _ _
      | exact ih2 _ _ _
      | exact LeO.none _
      | refine LeO.ite ?_ ?_
      | refine LeO.bind ?_ (fun _ => ?_)
    · intro y0 y1 y2
      unfold tenterhookref17_Sane.j1
      repeat' first
      | (with_reducible exact ih0 _ _)
      | (with_reducible exact ih1 _ _ _)
      | (with_reducible exact ih2 _ _ _)
      | (with_reducible exact LeO.refl _)
      | (with_reducible exact LeO.none _)
      | (with_reducible refine LeO.ite ?_ ?_)
      | (with_reducible refine LeO.bind ?_ (fun _ => ?_))
      | exact ih0 _ _
      | exact ih1 _ _ _
      | exact ih2 _ _ _
      | exact LeO.none _
      | refine LeO.ite ?_ ?_
      | refine LeO.bind ?_ (fun _ => ?_)
    · intro y0 y1 y2
      unfold tenterhookref17_Sane.l1
      repeat' first
      | (with_reducible exact ih0 _ _)
      | (with_reducible exact ih1 _ _ _)
      | (with_reducible exact ih2 _ _ _)
      | (with_reducible exact LeO.refl _)
      | (with_reducible exact LeO.none _)
      | (with_reducible refine LeO.ite ?_ ?_)
      | (with_reducible refine LeO.bind ?_ (fun _ => ?_))
      | exact ih0 _ _
      | exact ih1 _ _ _
      | exact ih2 _ _ _
      | exact LeO.none _
      | refine LeO.ite ?_ ?_
      | refine LeO.bind ?_ (fun _ => ?_)
theorem tenterhookref17_Sane.mono : ∀ a0 k, LeO (tenterhookref17_Sane.f k a0) (tenterhookref17_Sane.f (k + 1) a0) := by
  intro a0 k
  obtain ⟨ih0, ih1, ih2⟩ := tenterhookref17_Sane.mono_l k
  unfold tenterhookref17_Sane.f
  repeat' first
      | (with_reducible exact ih0 _ _)
      | (with_reducible exact ih1 _ _ _)
      | (with_reducible exact ih2 _ _ _)
      | (with_reducible exact LeO.refl _)
      | (with_reducible exact LeO.none _)
      | (with_reducible refine LeO.ite ?_ ?_)
      | (with_reducible refine LeO.bind ?_ (fun _ => ?_))
      | exact ih0 _ _
      | exact ih1 _ _ _
      | exact ih2 _ _ _
      | exact LeO.none _
      | refine LeO.ite ?_ ?_
      | refine LeO.bind ?_ (fun _ => ?_)
set_option maxHeartbeats 8000000 in
set_option maxRecDepth 100000 in
theorem tenterhookref17_Sane.calls (k : Nat) (A0 : Option Addr) (c0 : Nat) (l0 : List (S61)) (r : Bool) (w : World) (hr0 : Kd.C k61 w A0 l0.length l0) (hc0 : l0.length ≤ c0) (h : tenterhookref17_Sane.f k l0 = some r) :
    Calls Try.prog 21 #[.slice A0 l0.length c0] w fun e w' => e = .returned (.bool r) ∧ Drawn0 w w' := by
  have HR0 := Aside0.mk hr0
  have HC0 := Aside0.mk hc0
  clear hr0 hc0
  have H : (tenterhookref17_Sane.l0 k l0 0) = some r := h
  clear h
  have H' := Aside0.mk H
  clear H
  go_enter Try.func21, Try.ntmps21
  go_wp2
  repeat (go_quiet (fail); try go_wp2)
  go_loopg [3] k (fun kq v3 w' => ∃ (x3_1 : Int), v3 = .int .i64 x3_1 ∧ Aside0 (tenterhookref17_Sane.l0 kq l0 x3_1 = some r) ∧ Aside0 (kq ≤ k) ∧ Drawn0 w w')
  case atStart => exact ⟨(0), (by first | rfl | (simp; done) | (simp [*]; done)), H', ⟨Nat.le_refl _⟩, by repeat (first | exact Drawn0.refl _ | apply Drawn0.step)⟩
  case round =>
    clear H'
    obtain ⟨x3_1, rfl, HA, HK1, ⟨m1, rfl⟩⟩ := hrel
    cases gk with
    | zero => exact absurd HA.out (by simp [tenterhookref17_Sane.l0])
    | succ k1 =>
      have H := HA.out
      clear HA
      simp only [tenterhookref17_Sane.l0] at H
      by_cases c2 : x3_1 < (l0.length : Int)
      · rw [if_pos c2] at H
        have c2b0 : decide (x3_1 < (l0.length : Int)) = true := decide_eq_true c2
        clear c2
        have HC3 := Aside0.mk H
        clear H
        go_upto_region 4 with (fail)
        repeat (go_quiet (fail); go_upto_region 4 with (fail))
        go_cut [58] (fun v58 wc => ∃ (kq : Nat) (x58_2 : Bool), v58 = .bool x58_2 ∧ Aside0 (tenterhookref17_Sane.j1 kq l0 x3_1 x58_2 = some r) ∧ Aside0 (kq ≤ k1) ∧ Drawn0 w wc)
        case first =>
          have H := HC3.out
          clear HC3
          by_cases c4 : 0 ≤ x3_1
          · rw [if_pos c4] at H
            have c4b0 : decide (0 ≤ x3_1) = true := decide_eq_true c4
            clear c4
            (first | rw [c4b0] | (simp only [i64_w, i32_w]; rw [c4b0]) | skip)
            by_cases c5 : ((rd_T61 l0 x3_1).f0) < 0
            · rw [if_pos c5] at H
              have c5b0 : decide (((rd_T61 l0 x3_1).f0) < 0) = true := decide_eq_true c5
              clear c5
              have H' := Aside0.mk H
              clear H
              have p226 : 0 ≤ (x3_1 : Int) := of_decide_eq_true (by first | (with_reducible assumption) | assumption)
              have q226 : x3_1 < (l0.length : Int) := of_decide_eq_true (by first | (with_reducible assumption) | assumption)
              obtain ⟨ad226, e226, hx226_0, hx226_1⟩ := at_T61 HR0.out x3_1 p226 q226
              cases e226
              replace p226 := eq_true p226
              replace q226 := eq_true q226
              go_wp2
              repeat (go_quiet (fail); try go_wp2)
              go_meet
              case rel => exact ⟨_, (true), (by first | rfl | (simp; done) | (simp [*]; done)), H', ⟨by have := HK1.out; first | omega | exact Nat.le_refl _⟩, by repeat (first | exact Drawn0.refl _ | apply Drawn0.step)⟩
            · rw [if_neg c5] at H
              have c5b0 : decide (((rd_T61 l0 x3_1).f0) < 0) = false := decide_eq_false c5
              clear c5
              by_cases c6 : ((rd_T61 l0 x3_1).f0) > 7
              · rw [if_pos c6] at H
                have c6b0 : decide (7 < ((rd_T61 l0 x3_1).f0)) = true := decide_eq_true c6
                clear c6
                have H' := Aside0.mk H
                clear H
                have p226 : 0 ≤ (x3_1 : Int) := of_decide_eq_true (by first | (with_reducible assumption) | assumption)
                have q226 : x3_1 < (l0.length : Int) := of_decide_eq_true (by first | (with_reducible assumption) | assumption)
                obtain ⟨ad226, e226, hx226_0, hx226_1⟩ := at_T61 HR0.out x3_1 p226 q226
                cases e226
                replace p226 := eq_true p226
                replace q226 := eq_true q226
                have p227 : 0 ≤ (x3_1 : Int) := of_decide_eq_true (by first | (with_reducible assumption) | assumption)
                have q227 : x3_1 < (l0.length : Int) := of_decide_eq_true (by first | (with_reducible assumption) | assumption)
                obtain ⟨ad227, e227, hx227_0, hx227_1⟩ := at_T61 HR0.out x3_1 p227 q227
                obtain rfl : ad226 = ad227 := (by injection e227)
                replace p227 := eq_true p227
                replace q227 := eq_true q227
                go_wp2
                repeat (go_quiet (fail); try go_wp2)
                go_meet
                case rel => exact ⟨_, (true), (by first | rfl | (simp; done) | (simp [*]; done)), H', ⟨by have := HK1.out; first | omega | exact Nat.le_refl _⟩, by repeat (first | exact Drawn0.refl _ | apply Drawn0.step)⟩
              · rw [if_neg c6] at H
                have c6b0 : decide (7 < ((rd_T61 l0 x3_1).f0)) = false := decide_eq_false c6
                clear c6
                by_cases c7 : ((rd_T61 l0 x3_1).f1) < 0
                · rw [if_pos c7] at H
                  have c7b0 : decide (((rd_T61 l0 x3_1).f1) < 0) = true := decide_eq_true c7
                  clear c7
                  have H' := Aside0.mk H
                  clear H
                  have p226 : 0 ≤ (x3_1 : Int) := of_decide_eq_true (by first | (with_reducible assumption) | assumption)
                  have q226 : x3_1 < (l0.length : Int) := of_decide_eq_true (by first | (with_reducible assumption) | assumption)
                  obtain ⟨ad226, e226, hx226_0, hx226_1⟩ := at_T61 HR0.out x3_1 p226 q226
                  cases e226
                  replace p226 := eq_true p226
                  replace q226 := eq_true q226
                  have p227 : 0 ≤ (x3_1 : Int) := of_decide_eq_true (by first | (with_reducible assumption) | assumption)
                  have q227 : x3_1 < (l0.length : Int) := of_decide_eq_true (by first | (with_reducible assumption) | assumption)
                  obtain ⟨ad227, e227, hx227_0, hx227_1⟩ := at_T61 HR0.out x3_1 p227 q227
                  obtain rfl : ad226 = ad227 := (by injection e227)
                  replace p227 := eq_true p227
                  replace q227 := eq_true q227
                  have p228 : 0 ≤ (x3_1 : Int) := of_decide_eq_true (by first | (with_reducible assumption) | assumption)
                  have q228 : x3_1 < (l0.length : Int) := of_decide_eq_true (by first | (with_reducible assumption) | assumption)
                  obtain ⟨ad228, e228, hx228_0, hx228_1⟩ := at_T61 HR0.out x3_1 p228 q228
                  obtain rfl : ad226 = ad228 := (by injection e228)
                  replace p228 := eq_true p228
                  replace q228 := eq_true q228
                  go_wp2
                  repeat (go_quiet (fail); try go_wp2)
                  go_meet
                  case rel => exact ⟨_, (true), (by first | rfl | (simp; done) | (simp [*]; done)), H', ⟨by have := HK1.out; first | omega | exact Nat.le_refl _⟩, by repeat (first | exact Drawn0.refl _ | apply Drawn0.step)⟩
                · rw [if_neg c7] at H
                  have c7b0 : decide (((rd_T61 l0 x3_1).f1) < 0) = false := decide_eq_false c7
                  clear c7
                  by_cases c8 : ((rd_T61 l0 x3_1).f1) > 1125899906842624
                  · rw [if_pos c8] at H
                    have c8b0 : decide (1125899906842624 < ((rd_T61 l0 x3_1).f1)) = true := decide_eq_true c8
                    clear c8
                    have H' := Aside0.mk H
                    clear H
                    have p226 : 0 ≤ (x3_1 : Int) := of_decide_eq_true (by first | (with_reducible assumption) | assumption)
                    have q226 : x3_1 < (l0.length : Int) := of_decide_eq_true (by first | (with_reducible assumption) | assumption)
                    obtain ⟨ad226, e226, hx226_0, hx226_1⟩ := at_T61 HR0.out x3_1 p226 q226
                    cases e226
                    replace p226 := eq_true p226
                    replace q226 := eq_true q226
                    have p227 : 0 ≤ (x3_1 : Int) := of_decide_eq_true (by first | (with_reducible assumption) | assumption)
                    have q227 : x3_1 < (l0.length : Int) := of_decide_eq_true (by first | (with_reducible assumption) | assumption)
                    obtain ⟨ad227, e227, hx227_0, hx227_1⟩ := at_T61 HR0.out x3_1 p227 q227
                    obtain rfl : ad226 = ad227 := (by injection e227)
                    replace p227 := eq_true p227
                    replace q227 := eq_true q227
                    have p228 : 0 ≤ (x3_1 : Int) := of_decide_eq_true (by first | (with_reducible assumption) | assumption)
                    have q228 : x3_1 < (l0.length : Int) := of_decide_eq_true (by first | (with_reducible assumption) | assumption)
                    obtain ⟨ad228, e228, hx228_0, hx228_1⟩ := at_T61 HR0.out x3_1 p228 q228
                    obtain rfl : ad226 = ad228 := (by injection e228)
                    replace p228 := eq_true p228
                    replace q228 := eq_true q228
                    have p229 : 0 ≤ (x3_1 : Int) := of_decide_eq_true (by first | (with_reducible assumption) | assumption)
                    have q229 : x3_1 < (l0.length : Int) := of_decide_eq_true (by first | (with_reducible assumption) | assumption)
                    obtain ⟨ad229, e229, hx229_0, hx229_1⟩ := at_T61 HR0.out x3_1 p229 q229
                    obtain rfl : ad226 = ad229 := (by injection e229)
                    replace p229 := eq_true p229
                    replace q229 := eq_true q229
                    go_wp2
                    repeat (go_quiet (fail); try go_wp2)
                    go_meet
                    case rel => exact ⟨_, (true), (by first | rfl | (simp; done) | (simp [*]; done)), H', ⟨by have := HK1.out; first | omega | exact Nat.le_refl _⟩, by repeat (first | exact Drawn0.refl _ | apply Drawn0.step)⟩
                  · rw [if_neg c8] at H
                    have c8b0 : decide (1125899906842624 < ((rd_T61 l0 x3_1).f1)) = false := decide_eq_false c8
                    clear c8
                    by_cases c9 : x3_1 > 0
                    · rw [if_pos c9] at H
                      have c9b0 : decide (0 < x3_1) = true := decide_eq_true c9
                      clear c9
                      obtain ⟨ji10, hji10⟩ : ∃ j_ : Int, (wrap64 (x3_1 - 1)) = j_ := ⟨_, rfl⟩
                      replace H : (if 0 ≤ (ji10) then (if (ji10) < (l0.length : Int) then (tenterhookref17_Sane.j1 k1 l0 x3_1 (decide (((rd_T61 l0 x3_1).f1) < ((rd_T61 l0 (ji10)).f1)))) else (none)) else (none)) = some r := by first | (rw [hji10] at H; exact H) | (simp only [hji10] at H ⊢; exact H)
                      have hji10w : (IntKind.i64.wrap (x3_1 - 1)) = ji10 := (i64_w _).trans hji10
                      by_cases c11 : 0 ≤ (ji10)
                      · rw [if_pos c11] at H
                        have c11b0 : decide (0 ≤ (ji10)) = true := decide_eq_true c11
                        clear c11
                        by_cases c12 : (ji10) < (l0.length : Int)
                        · rw [if_pos c12] at H
                          have c12b0 : decide ((ji10) < (l0.length : Int)) = true := decide_eq_true c12
                          clear c12
                          have H' := Aside0.mk H
                          clear H
                          have p226 : 0 ≤ (x3_1 : Int) := of_decide_eq_true (by first | (with_reducible assumption) | assumption)
                          have q226 : x3_1 < (l0.length : Int) := of_decide_eq_true (by first | (with_reducible assumption) | assumption)
                          obtain ⟨ad226, e226, hx226_0, hx226_1⟩ := at_T61 HR0.out x3_1 p226 q226
                          cases e226
                          replace p226 := eq_true p226
                          replace q226 := eq_true q226
                          have p227 : 0 ≤ (x3_1 : Int) := of_decide_eq_true (by first | (with_reducible assumption) | assumption)
                          have q227 : x3_1 < (l0.length : Int) := of_decide_eq_true (by first | (with_reducible assumption) | assumption)
                          obtain ⟨ad227, e227, hx227_0, hx227_1⟩ := at_T61 HR0.out x3_1 p227 q227
                          obtain rfl : ad226 = ad227 := (by injection e227)
                          replace p227 := eq_true p227
                          replace q227 := eq_true q227
                          have p228 : 0 ≤ (x3_1 : Int) := of_decide_eq_true (by first | (with_reducible assumption) | assumption)
                          have q228 : x3_1 < (l0.length : Int) := of_decide_eq_true (by first | (with_reducible assumption) | assumption)
                          obtain ⟨ad228, e228, hx228_0, hx228_1⟩ := at_T61 HR0.out x3_1 p228 q228
                          obtain rfl : ad226 = ad228 := (by injection e228)
                          replace p228 := eq_true p228
                          replace q228 := eq_true q228
                          have p229 : 0 ≤ (x3_1 : Int) := of_decide_eq_true (by first | (with_reducible assumption) | assumption)
                          have q229 : x3_1 < (l0.length : Int) := of_decide_eq_true (by first | (with_reducible assumption) | assumption)
                          obtain ⟨ad229, e229, hx229_0, hx229_1⟩ := at_T61 HR0.out x3_1 p229 q229
                          obtain rfl : ad226 = ad229 := (by injection e229)
                          replace p229 := eq_true p229
                          replace q229 := eq_true q229
                          have p230 : 0 ≤ (x3_1 : Int) := of_decide_eq_true (by first | (with_reducible assumption) | assumption)
                          have q230 : x3_1 < (l0.length : Int) := of_decide_eq_true (by first | (with_reducible assumption) | assumption)
                          obtain ⟨ad230, e230, hx230_0, hx230_1⟩ := at_T61 HR0.out x3_1 p230 q230
                          obtain rfl : ad226 = ad230 := (by injection e230)
                          replace p230 := eq_true p230
                          replace q230 := eq_true q230
                          have p231 : 0 ≤ ((ji10) : Int) := of_decide_eq_true (by first | (with_reducible assumption) | assumption)
                          have q231 : (ji10) < (l0.length : Int) := of_decide_eq_true (by first | (with_reducible assumption) | assumption)
                          obtain ⟨ad231, e231, hx231_0, hx231_1⟩ := at_T61 HR0.out (ji10) p231 q231
                          obtain rfl : ad226 = ad231 := (by injection e231)
                          replace p231 := eq_true p231
                          replace q231 := eq_true q231
                          go_wp2
                          repeat (go_quiet (fail); try go_wp2)
                          go_meet
                          case rel => exact ⟨_, (decide (((rd_T61 l0 x3_1).f1) < ((rd_T61 l0 (ji10)).f1))), (by first | rfl | (simp; done) | (simp only [← hji10] <;> (first | rfl | simp)) | (simp [*]; done)), H', ⟨by have := HK1.out; first | omega | exact Nat.le_refl _⟩, by repeat (first | exact Drawn0.refl _ | apply Drawn0.step)⟩
                        · rw [if_neg c12] at H
                          exact absurd H (by simp)
                      · rw [if_neg c11] at H
                        exact absurd H (by simp)
                    · rw [if_neg c9] at H
                      have c9b0 : decide (0 < x3_1) = false := decide_eq_false c9
                      clear c9
                      have H' := Aside0.mk H
                      clear H
                      have p226 : 0 ≤ (x3_1 : Int) := of_decide_eq_true (by first | (with_reducible assumption) | assumption)
                      have q226 : x3_1 < (l0.length : Int) := of_decide_eq_true (by first | (with_reducible assumption) | assumption)
                      obtain ⟨ad226, e226, hx226_0, hx226_1⟩ := at_T61 HR0.out x3_1 p226 q226
                      cases e226
                      replace p226 := eq_true p226
                      replace q226 := eq_true q226
                      have p227 : 0 ≤ (x3_1 : Int) := of_decide_eq_true (by first | (with_reducible assumption) | assumption)
                      have q227 : x3_1 < (l0.length : Int) := of_decide_eq_true (by first | (with_reducible assumption) | assumption)
                      obtain ⟨ad227, e227, hx227_0, hx227_1⟩ := at_T61 HR0.out x3_1 p227 q227
                      obtain rfl : ad226 = ad227 := (by injection e227)
                      replace p227 := eq_true p227
                      replace q227 := eq_true q227
                      have p228 : 0 ≤ (x3_1 : Int) := of_decide_eq_true (by first | (with_reducible assumption) | assumption)
                      have q228 : x3_1 < (l0.length : Int) := of_decide_eq_true (by first | (with_reducible assumption) | assumption)
                      obtain ⟨ad228, e228, hx228_0, hx228_1⟩ := at_T61 HR0.out x3_1 p228 q228
                      obtain rfl : ad226 = ad228 := (by injection e228)
                      replace p228 := eq_true p228
                      replace q228 := eq_true q228
                      have p229 : 0 ≤ (x3_1 : Int) := of_decide_eq_true (by first | (with_reducible assumption) | assumption)
                      have q229 : x3_1 < (l0.length : Int) := of_decide_eq_true (by first | (with_reducible assumption) | assumption)
                      obtain ⟨ad229, e229, hx229_0, hx229_1⟩ := at_T61 HR0.out x3_1 p229 q229
                      obtain rfl : ad226 = ad229 := (by injection e229)
                      replace p229 := eq_true p229
                      replace q229 := eq_true q229
                      go_wp2
                      repeat (go_quiet (fail); try go_wp2)
                      go_meet
                      case rel => exact ⟨_, (false), (by first | rfl | (simp; done) | (simp [*]; done)), H', ⟨by have := HK1.out; first | omega | exact Nat.le_refl _⟩, by repeat (first | exact Drawn0.refl _ | apply Drawn0.step)⟩
          · rw [if_neg c4] at H
            exact absurd H (by simp)
        case rest =>
          clear HC3
          try clear c1
          try clear c2
          try clear c2b0
          try clear p2
          try clear q2
          try clear hx2
          try clear c4
          try clear c4b0
          try clear c5
          try clear c5b0
          try clear c6
          try clear c6b0
          try clear p6
          try clear c7
          try clear c7b0
          try clear c8
          try clear c8b0
          try clear c9
          try clear c9b0
          try clear c11
          try clear c11b0
          try clear c12
          try clear c12b0
          try clear hx226_0
          try clear hx226_1
          try clear hx227_0
          try clear hx227_1
          try clear hx228_0
          try clear hx228_1
          try clear hx229_0
          try clear hx229_1
          try clear hx230_0
          try clear hx230_1
          try clear hx231_0
          try clear hx231_1
          try clear p226
          try clear p227
          try clear p228
          try clear p229
          try clear p230
          try clear p231
          try clear q226
          try clear q227
          try clear q228
          try clear q229
          try clear q230
          try clear q231
          obtain ⟨kq, x58_2, rfl, HA, HJ2, ⟨mc2, rfl⟩⟩ := hcut
          cases kq with
          | zero => exact absurd HA.out (by simp [tenterhookref17_Sane.j1])
          | succ kj2 =>
            have H := HA.out
            clear HA
            simp only [tenterhookref17_Sane.j1] at H
            by_cases c13 : x58_2 = true
            · subst c13
              have H1 : (some false) = some r := by rw [if_pos rfl] at H; exact H
              clear H
              have H := H1
              clear H1
              obtain rfl := Option.some.inj H
              go_wp2
              repeat (go_quiet (fail); try go_wp2)
              go_ret
              exact ⟨by first | rfl | (simp; done) | (simp [*]; done), by repeat (first | exact Drawn0.refl _ | apply Drawn0.step)⟩
            · replace c13 := Bool.eq_false_iff.mpr c13
              subst c13
              have H1 : (tenterhookref17_Sane.l1 kj2 l0 x3_1 0) = some r := by rw [if_neg (show ¬ (false = true) by decide)] at H; exact H
              clear H
              have H := H1
              clear H1
              have H' := Aside0.mk H
              clear H
              go_wp2
              repeat (go_quiet (fail); try go_wp2)
              go_loopg [4] kj2 (fun kq v4 w' => ∃ (x4_3 : Int), v4 = .int .i64 x4_3 ∧ Aside0 (tenterhookref17_Sane.l1 kq l0 x3_1 x4_3 = some r) ∧ Aside0 (kq ≤ kj2) ∧ Drawn0 w w')
              case atStart => exact ⟨(0), (by first | rfl | (simp; done) | (simp [*]; done)), H', ⟨Nat.le_refl _⟩, by repeat (first | exact Drawn0.refl _ | apply Drawn0.step)⟩
              case round =>
                clear H'
                try clear c1
                try clear c2
                try clear c2b0
                try clear p2
                try clear q2
                try clear hx2
                try clear c4
                try clear c4b0
                try clear c5
                try clear c5b0
                try clear c6
                try clear c6b0
                try clear p6
                try clear c7
                try clear c7b0
                try clear c8
                try clear c8b0
                try clear c9
                try clear c9b0
                try clear c11
                try clear c11b0
                try clear c12
                try clear c12b0
                try clear c13
                try clear hx226_0
                try clear hx226_1
                try clear hx227_0
                try clear hx227_1
                try clear hx228_0
                try clear hx228_1
                try clear hx229_0
                try clear hx229_1
                try clear hx230_0
                try clear hx230_1
                try clear hx231_0
                try clear hx231_1
                try clear p2
                try clear p226
                try clear p227
                try clear p228
                try clear p229
                try clear p230
                try clear p231
                try clear p6
                try clear q2
                try clear q226
                try clear q227
                try clear q228
                try clear q229
                try clear q230
                try clear q231
                obtain ⟨x4_3, rfl, HA, HK3, ⟨m3, rfl⟩⟩ := hrel
                cases gk with
                | zero => exact absurd HA.out (by simp [tenterhookref17_Sane.l1])
                | succ k3 =>
                  have H := HA.out
                  clear HA
                  simp only [tenterhookref17_Sane.l1] at H
                  by_cases c14 : x4_3 < x3_1
                  · rw [if_pos c14] at H
                    have c14b0 : decide (x4_3 < x3_1) = true := decide_eq_true c14
                    clear c14
                    by_cases c15 : 0 ≤ x4_3
                    · rw [if_pos c15] at H
                      have c15b0 : decide (0 ≤ x4_3) = true := decide_eq_true c15
                      clear c15
                      by_cases c16 : x4_3 < (l0.length : Int)
                      · rw [if_pos c16] at H
                        have c16b0 : decide (x4_3 < (l0.length : Int)) = true := decide_eq_true c16
                        clear c16
                        by_cases c17 : 0 ≤ x3_1
                        · rw [if_pos c17] at H
                          have c17b0 : decide (0 ≤ x3_1) = true := decide_eq_true c17
                          clear c17
                          by_cases c18 : x3_1 < (l0.length : Int)
                          · rw [if_pos c18] at H
                            have c18b0 : decide (x3_1 < (l0.length : Int)) = true := decide_eq_true c18
                            clear c18
                            by_cases c19 : ((rd_T61 l0 x4_3).f0) = ((rd_T61 l0 x3_1).f0)
                            · rw [if_pos c19] at H
                              have c19b0 : (((rd_T61 l0 x4_3).f0) == ((rd_T61 l0 x3_1).f0)) = true := beq_iff_eq.mpr c19
                              have c19b1 : (((rd_T61 l0 x4_3).f0) != ((rd_T61 l0 x3_1).f0)) = false := bne_eq_false_iff_eq.mpr c19
                              clear c19
                              obtain rfl := Option.some.inj H
                              have p232 : 0 ≤ (x4_3 : Int) := of_decide_eq_true (by first | (with_reducible assumption) | assumption)
                              have q232 : x4_3 < (l0.length : Int) := of_decide_eq_true (by first | (with_reducible assumption) | assumption)
                              obtain ⟨ad232, e232, hx232_0, hx232_1⟩ := at_T61 HR0.out x4_3 p232 q232
                              cases e232
                              replace p232 := eq_true p232
                              replace q232 := eq_true q232
                              have p233 : 0 ≤ (x3_1 : Int) := of_decide_eq_true (by first | (with_reducible assumption) | assumption)
                              have q233 : x3_1 < (l0.length : Int) := of_decide_eq_true (by first | (with_reducible assumption) | assumption)
                              obtain ⟨ad233, e233, hx233_0, hx233_1⟩ := at_T61 HR0.out x3_1 p233 q233
                              obtain rfl : ad232 = ad233 := (by injection e233)
                              replace p233 := eq_true p233
                              replace q233 := eq_true q233
                              go_wp2
                              repeat (go_quiet (fail); try go_wp2)
                              go_ret
                              exact ⟨by first | rfl | (simp; done) | (simp [*]; done), by repeat (first | exact Drawn0.refl _ | apply Drawn0.step)⟩
                            · rw [if_neg c19] at H
                              have c19b0 : (((rd_T61 l0 x4_3).f0) == ((rd_T61 l0 x3_1).f0)) = false := beq_eq_false_iff_ne.mpr c19
                              have c19b1 : (((rd_T61 l0 x4_3).f0) != ((rd_T61 l0 x3_1).f0)) = true := bne_iff_ne.mpr c19
                              have H' := Aside0.mk H
                              clear H
                              have p232 : 0 ≤ (x4_3 : Int) := of_decide_eq_true (by first | (with_reducible assumption) | assumption)
                              have q232 : x4_3 < (l0.length : Int) := of_decide_eq_true (by first | (with_reducible assumption) | assumption)
                              obtain ⟨ad232, e232, hx232_0, hx232_1⟩ := at_T61 HR0.out x4_3 p232 q232
                              cases e232
                              replace p232 := eq_true p232
                              replace q232 := eq_true q232
                              have p233 : 0 ≤ (x3_1 : Int) := of_decide_eq_true (by first | (with_reducible assumption) | assumption)
                              have q233 : x3_1 < (l0.length : Int) := of_decide_eq_true (by first | (with_reducible assumption) | assumption)
                              obtain ⟨ad233, e233, hx233_0, hx233_1⟩ := at_T61 HR0.out x3_1 p233 q233
                              obtain rfl : ad232 = ad233 := (by injection e233)
                              replace p233 := eq_true p233
                              replace q233 := eq_true q233
                              go_wp2
                              repeat (go_quiet (fail); try go_wp2)
                              go_roundg k3
                              case measure => have := HK1.out; have := HJ2.out; have := HK3.out; omega
                              case rel => exact ⟨(wrap64 (x4_3 + 1)), (by first | rfl | (simp; done) | (simp [*]; done)), H', ⟨by have := HK1.out; have := HJ2.out; have := HK3.out; omega⟩, by repeat (first | exact Drawn0.refl _ | apply Drawn0.step)⟩
                          · rw [if_neg c18] at H
                            exact absurd H (by simp)
                        · rw [if_neg c17] at H
                          exact absurd H (by simp)
                      · rw [if_neg c16] at H
                        exact absurd H (by simp)
                    · rw [if_neg c15] at H
                      exact absurd H (by simp)
                  · rw [if_neg c14] at H
                    have c14b0 : decide (x4_3 < x3_1) = false := decide_eq_false c14
                    clear c14
                    have H' := Aside0.mk H
                    clear H
                    go_wp2
                    repeat (go_quiet (fail); try go_wp2)
                    go_roundg k3
                    case measure => have := HK1.out; have := HJ2.out; have := HK3.out; omega
                    case rel => exact ⟨(wrap64 (x3_1 + 1)), (by first | rfl | (simp; done) | (simp [*]; done)), H', ⟨by have := HK1.out; have := HJ2.out; have := HK3.out; omega⟩, by repeat (first | exact Drawn0.refl _ | apply Drawn0.step)⟩
      · rw [if_neg c2] at H
        have c2b0 : decide (x3_1 < (l0.length : Int)) = false := decide_eq_false c2
        clear c2
        obtain rfl := Option.some.inj H
        go_wp2
        repeat (go_quiet (fail); try go_wp2)
        go_ret
        exact ⟨by first | rfl | (simp; done) | (simp [*]; done), by repeat (first | exact Drawn0.refl _ | apply Drawn0.step)⟩

/-! ### tenterhookref17_sane: function 31 -/
def tenterhookref17_sane.f (k : Nat) (l0 : List (S61)) : Option ((List (S61))) := (tenterhookref17_Sane.f k l0).bind fun t234 => (if t234 = true then (some l0) else (some ([] : List (S61))))
theorem tenterhookref17_sane.mono : ∀ a0 k, LeO (tenterhookref17_sane.f k a0) (tenterhookref17_sane.f (k + 1) a0) := by
  intro a0 k
  unfold tenterhookref17_sane.f
  repeat' first
      | (with_reducible exact tenterhookref17_Sane.mono _ _)
      | (with_reducible exact LeO.refl _)
      | (with_reducible exact LeO.none _)
      | (with_reducible refine LeO.ite ?_ ?_)
      | (with_reducible refine LeO.bind ?_ (fun _ => ?_))
      | exact tenterhookref17_Sane.mono _ _
      | exact LeO.none _
      | refine LeO.ite ?_ ?_
      | refine LeO.bind ?_ (fun _ => ?_)
set_option maxHeartbeats 8000000 in
set_option maxRecDepth 100000 in
theorem tenterhookref17_sane.calls (k : Nat) (P0_ : Nat → Prop) (A0 : Option Addr) (c0 : Nat) (l0 : List (S61)) (r : List (S61)) (w : World) (hs0 : Kd.V k61 61 w w.heap.size (fun k_ => P0_ k_) (.slice A0 l0.length c0) l0) (h : tenterhookref17_sane.f k l0 = some r) :
    Calls Try.prog 31 #[.slice A0 l0.length c0] w fun e w' => ∃ v0_ : Value, e = .returned (v0_) ∧ Kd.V k61 61 w' w.heap.size (fun k_ => (P0_ k_ ∨ w.heap.size ≤ k_)) v0_ r ∧ Below w.heap.size w w' := by
  have HO0 := Aside0.mk (show Kd.V k61 61 w w.heap.size (fun k_ => (P0_ k_ ∨ w.heap.size ≤ k_)) (.slice A0 l0.length c0) l0 from Kd.V_mono hs0 (fun k_ hk => .inl hk))
  have HB := Aside0.mk (Below.refl w.heap.size w)
  have H : ((tenterhookref17_Sane.f k l0).bind fun t234 => (if t234 = true then (some l0) else (some ([] : List (S61))))) = some r := h
  clear h
  replace H := Option.bind_eq_some_iff.mp H
  obtain ⟨t234, A20, H⟩ := H
  replace H : (if t234 = true then (some l0) else (some ([] : List (S61)))) = some r := H
  have A2 := Aside0.mk A20
  clear A20
  by_cases c3 : t234 = true
  · subst c3
    have H1 : (some l0) = some r := by rw [if_pos rfl] at H; exact H
    clear H
    have H := H1
    clear H1
    obtain rfl := Option.some.inj H
    go_enter Try.func31, Try.ntmps31
    go_wp2_with (first | ((with_reducible refine gate_callee (f := 21) rfl ?_); refine goesL_ (some 4) rfl rfl Try.func21 (by kernel_rfl) rfl #[.slice A0 l0.length c0] rfl (by (try simp only [List.map_toArray, List.map_cons, List.map_nil]); first | done | rfl | (simp only [List.length_drop, List.length_take]; rfl)) ?_; (with_reducible refine (tenterhookref17_Sane.calls k _ _ l0 true _ ?side1 ?side2 A2.out).mono ?_); (case side1 => repeat (first | exact (Kd.V_reads' HO0.out).2.2 | (with_reducible refine Kd.C_alloc ?_ _) | (with_reducible refine Kd.C_drewN ?_ _) | (with_reducible refine Kd.C_drew ?_))); (case side2 => exact (Kd.V_reads' HO0.out).2.1); rintro e w' ⟨rfl, ⟨nd, rfl⟩⟩; refine ⟨_, rfl, ?_⟩))
    go_ret
    exact ⟨_, by first | rfl | (simp [errW_none, errW_some] <;> rfl) | (simp [*, errW_none, errW_some] <;> rfl), by (with_reducible repeat (first | apply Kd.V_alloc | apply Kd.V_drewN | apply Kd.V_drew)); exact HO0.out, by repeat (first | (with_reducible first | exact HB.out | apply below_alloc | apply pw_below_drewN | apply below_drew1) | exact HB.out)⟩
  · replace c3 := Bool.eq_false_iff.mpr c3
    subst c3
    have H1 : (some ([] : List (S61))) = some r := by rw [if_neg (show ¬ (false = true) by decide)] at H; exact H
    clear H
    have H := H1
    clear H1
    obtain rfl := Option.some.inj H
    go_enter Try.func31, Try.ntmps31
    go_wp2_with (first | ((with_reducible refine gate_callee (f := 21) rfl ?_); refine goesL_ (some 4) rfl rfl Try.func21 (by kernel_rfl) rfl #[.slice A0 l0.length c0] rfl (by (try simp only [List.map_toArray, List.map_cons, List.map_nil]); first | done | rfl | (simp only [List.length_drop, List.length_take]; rfl)) ?_; (with_reducible refine (tenterhookref17_Sane.calls k _ _ l0 false _ ?side1 ?side2 A2.out).mono ?_); (case side1 => repeat (first | exact (Kd.V_reads' HO0.out).2.2 | (with_reducible refine Kd.C_alloc ?_ _) | (with_reducible refine Kd.C_drewN ?_ _) | (with_reducible refine Kd.C_drew ?_))); (case side2 => exact (Kd.V_reads' HO0.out).2.1); rintro e w' ⟨rfl, ⟨nd, rfl⟩⟩; refine ⟨_, rfl, ?_⟩))
    go_ret
    exact ⟨_, by first | rfl | (simp [errW_none, errW_some] <;> rfl) | (simp [*, errW_none, errW_some] <;> rfl), Kd.V_nil _ _ _ _ _, by repeat (first | (with_reducible first | exact HB.out | apply below_alloc | apply pw_below_drewN | apply below_drew1) | exact HB.out)⟩

/-! ### tenterhookref17_has: function 32 -/
def tenterhookref17_has.l0 : Nat → List (S61) → Int → Int → Option (Bool)
  | 0, _, _, _ => none
  | k + 1, x0, x1, x5 => if x5 < (x0.length : Int) then (if 0 ≤ x5 then (if ((rd_T61 x0 x5).f0) = x1 then (some true) else (tenterhookref17_has.l0 k x0 x1 (wrap64 (x5 + 1)))) else (none)) else (some false)
def tenterhookref17_has.f (k : Nat) (l0 : List (S61)) (a1 : Int) : Option (Bool) := tenterhookref17_has.l0 k l0 a1 0
theorem tenterhookref17_has.mono_l : ∀ k, (∀ y0 y1 y2, LeO (tenterhookref17_has.l0 k y0 y1 y2) (tenterhookref17_has.l0 (k + 1) y0 y1 y2))
  | 0 => fun _ _ _ r h => by simp [tenterhookref17_has.l0] at h
  | k + 1 => by
    have ih0 := tenterhookref17_has.mono_l k
    · intro y0 y1 y2
      unfold tenterhookref17_has.l0
      repeat' first
      | (with_reducible exact ih0 _ _ _)
      | (with_reducible exact LeO.refl _)
      | (with_reducible exact LeO.none _)
      | (with_reducible refine LeO.ite ?_ ?_)
      | (with_reducible refine LeO.bind ?_ (fun _ => ?_))
      | exact ih0 _ _ _
      | exact LeO.none _
      | refine LeO.ite ?_ ?_
      | refine LeO.bind ?_ (fun _ => ?_)
theorem tenterhookref17_has.mono : ∀ a0 a1 k, LeO (tenterhookref17_has.f k a0 a1) (tenterhookref17_has.f (k + 1) a0 a1) := by
  intro a0 a1 k
  have ih0 := tenterhookref17_has.mono_l k
  unfold tenterhookref17_has.f
  repeat' first
      | (with_reducible exact ih0 _ _ _)
      | (with_reducible exact LeO.refl _)
      | (with_reducible exact LeO.none _)
      | (with_reducible refine LeO.ite ?_ ?_)
      | (with_reducible refine LeO.bind ?_ (fun _ => ?_))
      | exact ih0 _ _ _
      | exact LeO.none _
      | refine LeO.ite ?_ ?_
      | refine LeO.bind ?_ (fun _ => ?_)
set_option maxHeartbeats 8000000 in
set_option maxRecDepth 100000 in
theorem tenterhookref17_has.calls (k : Nat) (A0 : Option Addr) (c0 : Nat) (l0 : List (S61)) (a1 : Int) (r : Bool) (w : World) (hr0 : Kd.C k61 w A0 l0.length l0) (hc0 : l0.length ≤ c0) (h : tenterhookref17_has.f k l0 a1 = some r) :
    Calls Try.prog 32 #[.slice A0 l0.length c0, .int .i64 a1] w fun e w' => e = .returned (.bool r) ∧ Drawn0 w w' := by
  have HR0 := Aside0.mk hr0
  have HC0 := Aside0.mk hc0
  clear hr0 hc0
  have H : (tenterhookref17_has.l0 k l0 a1 0) = some r := h
  clear h
  have H' := Aside0.mk H
  clear H
  go_enter Try.func32, Try.ntmps32
  go_wp2
  go_loopg [5] k (fun kq v5 w' => ∃ (x5_1 : Int), v5 = .int .i64 x5_1 ∧ Aside0 (tenterhookref17_has.l0 kq l0 a1 x5_1 = some r) ∧ Aside0 (kq ≤ k) ∧ Drawn0 w w')
  case atStart => exact ⟨(0), (by first | rfl | (simp; done) | (simp [*]; done)), H', ⟨Nat.le_refl _⟩, by repeat (first | exact Drawn0.refl _ | apply Drawn0.step)⟩
  case round =>
    clear H'
    try clear p2
    obtain ⟨x5_1, rfl, HA, HK1, ⟨m1, rfl⟩⟩ := hrel
    cases gk with
    | zero => exact absurd HA.out (by simp [tenterhookref17_has.l0])
    | succ k1 =>
      have H := HA.out
      clear HA
      simp only [tenterhookref17_has.l0] at H
      by_cases c3 : x5_1 < (l0.length : Int)
      · rw [if_pos c3] at H
        have c3b0 : decide (x5_1 < (l0.length : Int)) = true := decide_eq_true c3
        clear c3
        by_cases c4 : 0 ≤ x5_1
        · rw [if_pos c4] at H
          have c4b0 : decide (0 ≤ x5_1) = true := decide_eq_true c4
          clear c4
          by_cases c5 : ((rd_T61 l0 x5_1).f0) = a1
          · rw [if_pos c5] at H
            have c5b0 : (((rd_T61 l0 x5_1).f0) == a1) = true := beq_iff_eq.mpr c5
            have c5b1 : (((rd_T61 l0 x5_1).f0) != a1) = false := bne_eq_false_iff_eq.mpr c5
            clear c5
            obtain rfl := Option.some.inj H
            have p235 : 0 ≤ (x5_1 : Int) := of_decide_eq_true (by first | (with_reducible assumption) | assumption)
            have q235 : x5_1 < (l0.length : Int) := of_decide_eq_true (by first | (with_reducible assumption) | assumption)
            obtain ⟨ad235, e235, hx235_0, hx235_1⟩ := at_T61 HR0.out x5_1 p235 q235
            cases e235
            replace p235 := eq_true p235
            replace q235 := eq_true q235
            go_wp2
            go_ret
            exact ⟨by first | rfl | (simp; done) | (simp [*]; done), by repeat (first | exact Drawn0.refl _ | apply Drawn0.step)⟩
          · rw [if_neg c5] at H
            have c5b0 : (((rd_T61 l0 x5_1).f0) == a1) = false := beq_eq_false_iff_ne.mpr c5
            have c5b1 : (((rd_T61 l0 x5_1).f0) != a1) = true := bne_iff_ne.mpr c5
            have H' := Aside0.mk H
            clear H
            have p235 : 0 ≤ (x5_1 : Int) := of_decide_eq_true (by first | (with_reducible assumption) | assumption)
            have q235 : x5_1 < (l0.length : Int) := of_decide_eq_true (by first | (with_reducible assumption) | assumption)
            obtain ⟨ad235, e235, hx235_0, hx235_1⟩ := at_T61 HR0.out x5_1 p235 q235
            cases e235
            replace p235 := eq_true p235
            replace q235 := eq_true q235
            go_wp2
            go_roundg k1
            case measure => have := HK1.out; omega
            case rel => exact ⟨(wrap64 (x5_1 + 1)), (by first | rfl | (simp; done) | (simp [*]; done)), H', ⟨by have := HK1.out; omega⟩, by repeat (first | exact Drawn0.refl _ | apply Drawn0.step)⟩
        · rw [if_neg c4] at H
          exact absurd H (by simp)
      · rw [if_neg c3] at H
        have c3b0 : decide (x5_1 < (l0.length : Int)) = false := decide_eq_false c3
        clear c3
        obtain rfl := Option.some.inj H
        go_wp2
        go_ret
        exact ⟨by first | rfl | (simp; done) | (simp [*]; done), by repeat (first | exact Drawn0.refl _ | apply Drawn0.step)⟩
/-! ### tenterhookref17_Put: function 14 -/
mutual
def tenterhookref17_Put.j0 : Nat → List (S61) → Int → Int → Bool → Option ((List (S61)) × Bool)
  | 0, _, _, _, _ => none
  | k + 1, x0, x1, x2, x31 => if x31 = true then (some (x0, false)) else (tenterhookref17_Put.l0 k x0 x1 x2 ([] : List (S61)) 0)
def tenterhookref17_Put.l0 : Nat → List (S61) → Int → Int → List (S61) → Int → Option ((List (S61)) × Bool)
  | 0, _, _, _, _, _ => none
  | k + 1, x0, x1, x2, x8, x9 => if x9 < (x0.length : Int) then (if 0 ≤ x9 then (if ((rd_T61 x0 x9).f1) ≤ x2 then (if x8.length < 8796093022208 then (tenterhookref17_Put.l0 k x0 x1 x2 (x8 ++ [(⟨(rd_T61 x0 x9).f0, (rd_T61 x0 x9).f1⟩ : S61)]) (wrap64 (x9 + 1))) else (none)) else (tenterhookref17_Put.l0 k x0 x1 x2 x8 (wrap64 (x9 + 1)))) else (none)) else (if x8.length < 8796093022208 then (tenterhookref17_Put.l1 k x0 x2 (x8 ++ [(⟨x1, x2⟩ : S61)]) 0) else (none))
def tenterhookref17_Put.l1 : Nat → List (S61) → Int → List (S61) → Int → Option ((List (S61)) × Bool)
  | 0, _, _, _, _ => none
  | k + 1, x0, x2, x8, x10 => if x10 < (x0.length : Int) then (if 0 ≤ x10 then (if ((rd_T61 x0 x10).f1) > x2 then (if x8.length < 8796093022208 then (tenterhookref17_Put.l1 k x0 x2 (x8 ++ [(⟨(rd_T61 x0 x10).f0, (rd_T61 x0 x10).f1⟩ : S61)]) (wrap64 (x10 + 1))) else (none)) else (tenterhookref17_Put.l1 k x0 x2 x8 (wrap64 (x10 + 1)))) else (none)) else (some (x8, true))
end
def tenterhookref17_Put.f (k : Nat) (l0 : List (S61)) (a1 : Int) (a2 : Int) : Option ((List (S61)) × Bool) := (tenterhookref17_sane.f k l0).bind fun t236 => (if a1 < 0 then (tenterhookref17_Put.j0 k t236 a1 a2 true) else (if a1 > 7 then (tenterhookref17_Put.j0 k t236 a1 a2 true) else (if a2 < 0 then (tenterhookref17_Put.j0 k t236 a1 a2 true) else (if a2 > 1125899906842624 then (tenterhookref17_Put.j0 k t236 a1 a2 true) else ((tenterhookref17_has.f k t236 a1).bind fun t239 => (tenterhookref17_Put.j0 k t236 a1 a2 t239))))))
theorem tenterhookref17_Put.mono_l : ∀ k, (∀ y0 y1 y2 y3, LeO (tenterhookref17_Put.j0 k y0 y1 y2 y3) (tenterhookref17_Put.j0 (k + 1) y0 y1 y2 y3)) ∧ (∀ y0 y1 y2 y3 y4, LeO (tenterhookref17_Put.l0 k y0 y1 y2 y3 y4) (tenterhookref17_Put.l0 (k + 1) y0 y1 y2 y3 y4)) ∧ (∀ y0 y1 y2 y3, LeO (tenterhookref17_Put.l1 k y0 y1 y2 y3) (tenterhookref17_Put.l1 (k + 1) y0 y1 y2 y3))
  | 0 => ⟨fun _ _ _ _ r h => by simp [tenterhookref17_Put.j0] at h, fun _ _ _ _ _ r h => by simp [tenterhookref17_Put.l0] at h, fun _ _ _ _ r h => by simp [tenterhookref17_Put.l1] at h⟩
  | k + 1 => by
    obtain ⟨ih0, ih1, ih2⟩ := tenterhookref17_Put.mono_l k
    refine ⟨?_, ?_, ?_⟩
    · intro y0 y1 y2 y3
      unfold tenterhookref17_Put.j0
      repeat' first
      | (with_reducible exact ih0 _ _ _ _)
      | (with_reducible exact ih1 _ _ _ _ _)
      | (with_reducible exact ih2 _ _ _ _)
      | (with_reducible exact tenterhookref17_has.mono _ _ _)
      | (with_reducible exact tenterhookref17_sane.mono _ _)
      | (with_reducible exact LeO.refl _)
      | (with_reducible exact LeO.none _)
      | (with_reducible refine LeO.ite ?_ ?_)
      | (with_reducible refine LeO.bind ?_ (fun _ => ?_))
      | exact ih0 _ _ _ _
      | exact ih1 _ _ _ _ _
      | exact ih2 _ _ _ _
      | exact tenterhookref17_has.mono _ _ _
      | exact tenterhookref17_sane.mono _ _
      | exact LeO.none _
      | refine LeO.ite ?_ ?_
      | refine LeO.bind ?_ (fun _ => ?_)
    · intro y0 y1 y2 y3 y4
      unfold tenterhookref17_Put.l0
      repeat' first
      | (with_reducible exact ih0 _ _ _ _)
      | (with_reducible exact ih1 _ _ _ _ _)
      | (with_reducible exact ih2 _ _ _ _)
      | (with_reducible exact tenterhookref17_has.mono _ _ _)
      | (with_reducible exact tenterhookref17_sane.mono _ _)
      | (with_reducible exact LeO.refl _)
      | (with_reducible exact LeO.none _)
      | (with_reducible refine LeO.ite ?_ ?_)
      | (with_reducible refine LeO.bind ?_ (fun _ => ?_))
      | exact ih0 _ _ _ _
      | exact ih1 _ _ _ _ _
      | exact ih2 _ _ _ _
      | exact tenterhookref17_has.mono _ _ _
      | exact tenterhookref17_sane.mono _ _
      | exact LeO.none _
      | refine LeO.ite ?_ ?_
      | refine LeO.bind ?_ (fun _ => ?_)
    · intro y0 y1 y2 y3
      unfold tenterhookref17_Put.l1
      repeat' first
      | (with_reducible exact ih0 _ _ _ _)
      | (with_reducible exact ih1 _ _ _ _ _)
      | (with_reducible exact ih2 _ _ _ _)
      | (with_reducible exact tenterhookref17_has.mono _ _ _)
      | (with_reducible exact tenterhookref17_sane.mono _ _)
      | (with_reducible exact LeO.refl _)
      | (with_reducible exact LeO.none _)
      | (with_reducible refine LeO.ite ?_ ?_)
      | (with_reducible refine LeO.bind ?_ (fun _ => ?_))
      | exact ih0 _ _ _ _
      | exact ih1 _ _ _ _ _
      | exact ih2 _ _ _ _
      | exact tenterhookref17_has.mono _ _ _
      | exact tenterhookref17_sane.mono _ _
      | exact LeO.none _
      | refine LeO.ite ?_ ?_
      | refine LeO.bind ?_ (fun _ => ?_)
theorem tenterhookref17_Put.mono : ∀ a0 a1 a2 k, LeO (tenterhookref17_Put.f k a0 a1 a2) (tenterhookref17_Put.f (k + 1) a0 a1 a2) := by
  intro a0 a1 a2 k
  obtain ⟨ih0, ih1, ih2⟩ := tenterhookref17_Put.mono_l k
  unfold tenterhookref17_Put.f
  repeat' first
      | (with_reducible exact ih0 _ _ _ _)
      | (with_reducible exact ih1 _ _ _ _ _)
      | (with_reducible exact ih2 _ _ _ _)
      | (with_reducible exact tenterhookref17_has.mono _ _ _)
      | (with_reducible exact tenterhookref17_sane.mono _ _)
      | (with_reducible exact LeO.refl _)
      | (with_reducible exact LeO.none _)
      | (with_reducible refine LeO.ite ?_ ?_)
      | (with_reducible refine LeO.bind ?_ (fun _ => ?_))
      | exact ih0 _ _ _ _
      | exact ih1 _ _ _ _ _
      | exact ih2 _ _ _ _
      | exact tenterhookref17_has.mono _ _ _
      | exact tenterhookref17_sane.mono _ _
      | exact LeO.none _
      | refine LeO.ite ?_ ?_
      | refine LeO.bind ?_ (fun _ => ?_)
set_option maxHeartbeats 8000000 in
set_option maxRecDepth 100000 in
theorem tenterhookref17_Put.calls (k : Nat) (P0_ : Nat → Prop) (A0 : Option Addr) (c0 : Nat) (l0 : List (S61)) (a1 : Int) (a2 : Int) (r1 : List (S61)) (r2 : Bool) (w : World) (hs0 : Kd.V k61 61 w w.heap.size (fun k_ => P0_ k_) (.slice A0 l0.length c0) l0) (h : tenterhookref17_Put.f k l0 a1 a2 = some (r1, r2)) :
    Calls Try.prog 14 #[.slice A0 l0.length c0, .int .i64 a1, .int .i64 a2] w fun e w' => ∃ v0_ : Value, e = .returned (.tuple #[v0_, .bool r2]) ∧ Kd.V k61 61 w' w.heap.size (fun k_ => (P0_ k_ ∨ w.heap.size ≤ k_)) v0_ r1 ∧ Below w.heap.size w w' := by
  have hu61 := Try.underlying61
  have HO0 := Aside0.mk (show Kd.V k61 61 w w.heap.size (fun k_ => (P0_ k_ ∨ w.heap.size ≤ k_)) (.slice A0 l0.length c0) l0 from Kd.V_mono hs0 (fun k_ hk => .inl hk))
  have HB := Aside0.mk (Below.refl w.heap.size w)
  have H : ((tenterhookref17_sane.f k l0).bind fun t236 => (if a1 < 0 then (tenterhookref17_Put.j0 k t236 a1 a2 true) else (if a1 > 7 then (tenterhookref17_Put.j0 k t236 a1 a2 true) else (if a2 < 0 then (tenterhookref17_Put.j0 k t236 a1 a2 true) else (if a2 > 1125899906842624 then (tenterhookref17_Put.j0 k t236 a1 a2 true) else ((tenterhookref17_has.f k t236 a1).bind fun t239 => (tenterhookref17_Put.j0 k t236 a1 a2 t239))))))) = some (r1, r2) := h
  clear h
  replace H := Option.bind_eq_some_iff.mp H
  obtain ⟨t236, A40, H⟩ := H
  replace H : (if a1 < 0 then (tenterhookref17_Put.j0 k t236 a1 a2 true) else (if a1 > 7 then (tenterhookref17_Put.j0 k t236 a1 a2 true) else (if a2 < 0 then (tenterhookref17_Put.j0 k t236 a1 a2 true) else (if a2 > 1125899906842624 then (tenterhookref17_Put.j0 k t236 a1 a2 true) else ((tenterhookref17_has.f k t236 a1).bind fun t239 => (tenterhookref17_Put.j0 k t236 a1 a2 t239)))))) = some (r1, r2) := H
  have A4 := Aside0.mk A40
  clear A40
  have HC5 := Aside0.mk H
  clear H
  go_enter Try.func14, Try.ntmps14
  go_upto_region 2 with (first | ((with_reducible refine gate_callee (f := 31) rfl ?_); refine goesL_ (some 12) rfl rfl Try.func31 (by kernel_rfl) rfl #[.slice A0 l0.length c0] rfl (by (try simp only [List.map_toArray, List.map_cons, List.map_nil]); first | done | rfl | (simp only [List.length_drop, List.length_take]; rfl)) ?_; (with_reducible refine (tenterhookref17_sane.calls k (fun k_ => (P0_ k_ ∨ w.heap.size ≤ k_)) _ _ l0 t236 _ ?side1 A4.out).mono ?_); (case side1 => exact HO0.out); rintro e w6 ⟨v237, rfl, ho0, hb⟩; refine ⟨_, rfl, ?_⟩; have n0_ := Aside0.mk (Kd.V_below (by (with_reducible repeat (first | apply Kd.V_alloc | apply Kd.V_drewN | apply Kd.V_drew)); exact HO0.out) hb); have n1_ := Aside0.mk (Kd.V_lower (Kd.V_mono (ok' := fun k_ => (P0_ k_ ∨ w.heap.size ≤ k_)) ho0 (fun k_ hk_ => Or.elim hk_ (fun hs_ => hs_) (fun hn_ => (.inr (Nat.le_trans (below_size (by repeat (first | (with_reducible first | exact HB.out | apply below_alloc | apply pw_below_drewN | apply below_drew1) | exact HB.out))) hn_))))) (below_size (by repeat (first | (with_reducible first | exact HB.out | apply below_alloc | apply pw_below_drewN | apply below_drew1) | exact HB.out)))); have n2_ := Aside0.mk (below_step (by repeat (first | (with_reducible first | exact HB.out | apply below_alloc | apply pw_below_drewN | apply below_drew1) | exact HB.out)) hb); clear HO0; clear HB; have HO0 := n0_; have HO238 := n1_; have HB := n2_; clear n0_ n1_ n2_; (try clear hb); (try clear hb2); (try clear hk); (try clear hi); (try clear ho0)))
  (try simp only [Act.put, List.setIfInBounds_toArray, List.set_cons_zero, List.set_cons_succ])
  go_cut [31] (fun v31 wc => ∃ (kq : Nat) (x31_4 : Bool), v31 = .bool x31_4 ∧ Aside0 (tenterhookref17_Put.j0 kq t236 a1 a2 x31_4 = some (r1, r2)) ∧ Aside0 (kq ≤ k) ∧ Aside0 (Kd.V k61 61 wc w.heap.size (fun k_ => (P0_ k_ ∨ w.heap.size ≤ k_)) v237 t236) ∧ Aside0 (Below w.heap.size w wc))
  case first =>
    have H := HC5.out
    clear HC5
    by_cases c7 : a1 < 0
    · rw [if_pos c7] at H
      have c7b0 : decide (a1 < 0) = true := decide_eq_true c7
      clear c7
      (first | rw [c7b0] | (simp only [i64_w, i32_w]; rw [c7b0]) | skip)
      have H' := Aside0.mk H
      clear H
      go_wp2
      go_meet
      case rel => exact ⟨_, (true), (by first | rfl | (simp; done) | (simp [*]; done)), H', ⟨by first | omega | exact Nat.le_refl _⟩, ⟨by (with_reducible repeat (first | apply Kd.V_alloc | apply Kd.V_drewN | apply Kd.V_drew)); exact HO238.out⟩, ⟨by repeat (first | (with_reducible first | exact HB.out | apply below_alloc | apply pw_below_drewN | apply below_drew1) | exact HB.out)⟩⟩
    · rw [if_neg c7] at H
      have c7b0 : decide (a1 < 0) = false := decide_eq_false c7
      clear c7
      (first | rw [c7b0] | (simp only [i64_w, i32_w]; rw [c7b0]) | skip)
      by_cases c8 : a1 > 7
      · rw [if_pos c8] at H
        have c8b0 : decide (7 < a1) = true := decide_eq_true c8
        clear c8
        have H' := Aside0.mk H
        clear H
        go_wp2
        go_meet
        case rel => exact ⟨_, (true), (by first | rfl | (simp; done) | (simp [*]; done)), H', ⟨by first | omega | exact Nat.le_refl _⟩, ⟨by (with_reducible repeat (first | apply Kd.V_alloc | apply Kd.V_drewN | apply Kd.V_drew)); exact HO238.out⟩, ⟨by repeat (first | (with_reducible first | exact HB.out | apply below_alloc | apply pw_below_drewN | apply below_drew1) | exact HB.out)⟩⟩
      · rw [if_neg c8] at H
        have c8b0 : decide (7 < a1) = false := decide_eq_false c8
        clear c8
        by_cases c9 : a2 < 0
        · rw [if_pos c9] at H
          have c9b0 : decide (a2 < 0) = true := decide_eq_true c9
          clear c9
          have H' := Aside0.mk H
          clear H
          go_wp2
          go_meet
          case rel => exact ⟨_, (true), (by first | rfl | (simp; done) | (simp [*]; done)), H', ⟨by first | omega | exact Nat.le_refl _⟩, ⟨by (with_reducible repeat (first | apply Kd.V_alloc | apply Kd.V_drewN | apply Kd.V_drew)); exact HO238.out⟩, ⟨by repeat (first | (with_reducible first | exact HB.out | apply below_alloc | apply pw_below_drewN | apply below_drew1) | exact HB.out)⟩⟩
        · rw [if_neg c9] at H
          have c9b0 : decide (a2 < 0) = false := decide_eq_false c9
          clear c9
          by_cases c10 : a2 > 1125899906842624
          · rw [if_pos c10] at H
            have c10b0 : decide (1125899906842624 < a2) = true := decide_eq_true c10
            clear c10
            have H' := Aside0.mk H
            clear H
            go_wp2
            go_meet
            case rel => exact ⟨_, (true), (by first | rfl | (simp; done) | (simp [*]; done)), H', ⟨by first | omega | exact Nat.le_refl _⟩, ⟨by (with_reducible repeat (first | apply Kd.V_alloc | apply Kd.V_drewN | apply Kd.V_drew)); exact HO238.out⟩, ⟨by repeat (first | (with_reducible first | exact HB.out | apply below_alloc | apply pw_below_drewN | apply below_drew1) | exact HB.out)⟩⟩
          · rw [if_neg c10] at H
            have c10b0 : decide (1125899906842624 < a2) = false := decide_eq_false c10
            clear c10
            replace H := Option.bind_eq_some_iff.mp H
            obtain ⟨t239, A110, H⟩ := H
            replace H : (tenterhookref17_Put.j0 k t236 a1 a2 t239) = some (r1, r2) := H
            have A11 := Aside0.mk A110
            clear A110
            have H' := Aside0.mk H
            clear H
            obtain ⟨Ao12, co12, eo12⟩ := Kd.V_slice HO238.out
            subst eo12
            go_wp2_with (first | (go_at_call 32; (with_reducible refine (tenterhookref17_has.calls k _ _ t236 a1 t239 _ ?side1 ?side2 A11.out).mono ?_); (case side1 => repeat (first | exact (Kd.V_reads' HO238.out).2.2 | (with_reducible refine Kd.C_alloc ?_ _) | (with_reducible refine Kd.C_drewN ?_ _) | (with_reducible refine Kd.C_drew ?_))); (case side2 => exact (Kd.V_reads' HO238.out).2.1); rintro e w' ⟨rfl, ⟨nd, rfl⟩⟩))
            go_meet
            case rel => exact ⟨_, (t239), (by first | rfl | (simp; done) | (simp [*]; done)), H', ⟨by first | omega | exact Nat.le_refl _⟩, ⟨by (with_reducible repeat (first | apply Kd.V_alloc | apply Kd.V_drewN | apply Kd.V_drew)); exact HO238.out⟩, ⟨by repeat (first | (with_reducible first | exact HB.out | apply below_alloc | apply pw_below_drewN | apply below_drew1) | exact HB.out)⟩⟩
  case rest =>
    clear HC5
    try clear c1
    try clear p2
    try clear c3
    try clear c7
    try clear c7b0
    try clear c8
    try clear c8b0
    try clear c9
    try clear c9b0
    try clear c10
    try clear c10b0
    obtain ⟨kq, x31_4, rfl, HA, HJ4, HO_0, HB⟩ := hcut
    cases kq with
    | zero => exact absurd HA.out (by simp [tenterhookref17_Put.j0])
    | succ kj4 =>
      have H := HA.out
      clear HA
      simp only [tenterhookref17_Put.j0] at H
      by_cases c13 : x31_4 = true
      · subst c13
        have H1 : (some (t236, false)) = some (r1, r2) := by rw [if_pos rfl] at H; exact H
        clear H
        have H := H1
        clear H1
        simp only [Option.some.injEq, Prod.mk.injEq] at H
        obtain ⟨rfl, rfl⟩ := H
        go_wp2
        go_ret2
        exact ⟨_, by first | rfl | (simp [errW_none, errW_some] <;> rfl) | (simp [*, errW_none, errW_some] <;> rfl), by (with_reducible repeat (first | apply Kd.V_alloc | apply Kd.V_drewN | apply Kd.V_drew)); exact HO_0.out, by repeat (first | (with_reducible first | exact HB.out | apply below_alloc | apply pw_below_drewN | apply below_drew1) | exact HB.out)⟩
      · replace c13 := Bool.eq_false_iff.mpr c13
        subst c13
        have H1 : (tenterhookref17_Put.l0 kj4 t236 a1 a2 ([] : List (S61)) 0) = some (r1, r2) := by rw [if_neg (show ¬ (false = true) by decide)] at H; exact H
        clear H
        have H := H1
        clear H1
        have H' := Aside0.mk H
        clear H
        go_wp2
        go_loopg [8, 9] kj4 (fun kq v8 v9 w' => ∃ (x8_2 : List (S61)) (x9_2 : Int), v9 = .int .i64 x9_2 ∧ Aside0 (tenterhookref17_Put.l0 kq t236 a1 a2 x8_2 x9_2 = some (r1, r2)) ∧ Aside0 (kq ≤ kj4) ∧ Aside0 (Kd.V k61 61 w' w.heap.size (fun k_ => (P0_ k_ ∨ w.heap.size ≤ k_) ∧ some k_ ≠ (v8 : Value).ownBlock) v237 t236) ∧ Aside0 (Kd.R k61 61 w' w.heap.size (fun k_ => (w.heap.size ≤ k_)) v8 x8_2) ∧ Aside0 (Below w.heap.size w w'))
        case atStart => exact ⟨(([] : List (S61))), (0), (by first | rfl | (simp; done) | (simp [*]; done)), H', ⟨Nat.le_refl _⟩, ⟨by (with_reducible repeat (first | apply Kd.V_alloc | apply Kd.V_drewN | apply Kd.V_drew)); exact Kd.V_mono HO_0.out (fun _ hk => ⟨hk, (by simp [Value.ownBlock])⟩)⟩, ⟨by first | exact Kd.R_nil _ _ _ _ _ | exact Kd.N_nil _ _ _ _ _ | exact Kd.V_nil _ _ _ _ _ | exact Kd.Q_nil _ _ _ _ _ | exact Kd.S_nil _ _ _ _ _⟩, ⟨by repeat (first | (with_reducible first | exact HB.out | apply below_alloc | apply pw_below_drewN | apply below_drew1) | exact HB.out)⟩⟩
        case round =>
          clear H'
          try clear c1
          try clear p2
          try clear c3
          try clear c7
          try clear c7b0
          try clear c8
          try clear c8b0
          try clear c9
          try clear c9b0
          try clear c10
          try clear c10b0
          try clear c13
          try clear p2
          obtain ⟨x8_2, x9_2, rfl, HA, HK2, HO_0, HO_8, HB⟩ := hrel
          cases gk with
          | zero => exact absurd HA.out (by simp [tenterhookref17_Put.l0])
          | succ k2 =>
            have H := HA.out
            clear HA
            simp only [tenterhookref17_Put.l0] at H
            by_cases c14 : x9_2 < (t236.length : Int)
            · rw [if_pos c14] at H
              have c14b0 : decide (x9_2 < (t236.length : Int)) = true := decide_eq_true c14
              clear c14
              by_cases c15 : 0 ≤ x9_2
              · rw [if_pos c15] at H
                have c15b0 : decide (0 ≤ x9_2) = true := decide_eq_true c15
                clear c15
                by_cases c16 : ((rd_T61 t236 x9_2).f1) ≤ a2
                · rw [if_pos c16] at H
                  have c16b0 : decide (((rd_T61 t236 x9_2).f1) ≤ a2) = true := decide_eq_true c16
                  clear c16
                  by_cases c17 : x8_2.length < 8796093022208
                  · rw [if_pos c17] at H
                    have LMc17 := Aside0.mk c17
                    clear c17
                    obtain ⟨y242, hy242⟩ : ∃ y_ : List (S61), y_ = (x8_2 ++ [(⟨(rd_T61 t236 x9_2).f0, (rd_T61 t236 x9_2).f1⟩ : S61)]) := ⟨_, rfl⟩
                    replace H : (tenterhookref17_Put.l0 k2 t236 a1 a2 y242 (wrap64 (x9_2 + 1))) = some (r1, r2) := by first | (rw [hy242]; with_reducible exact H) | (have H2_ := (Option.bind_some _ _).symm.trans H; rw [hy242]; with_reducible exact H2_) | (have H2_ := (Option.bind_some _ _).symm.trans H; with_reducible exact H2_) | with_reducible exact H | (rw [hy242]; exact H) | exact H
                    have Ny242 := Aside0.mk hy242
                    clear hy242
                    have H' := Aside0.mk H
                    clear H
                    obtain ⟨Ao18, co18, eo18⟩ := Kd.V_slice HO_0.out
                    subst eo18
                    have p240 : 0 ≤ (x9_2 : Int) := of_decide_eq_true (by first | (with_reducible assumption) | assumption)
                    have q240 : x9_2 < (t236.length : Int) := of_decide_eq_true (by first | (with_reducible assumption) | assumption)
                    obtain ⟨ad240, e240, hx240_0, hx240_1⟩ := at_T61 (Kd.V_reads' HO_0.out).2.2 x9_2 p240 q240
                    cases e240
                    replace p240 := eq_true p240
                    replace q240 := eq_true q240
                    have p241 : 0 ≤ (x9_2 : Int) := of_decide_eq_true (by first | (with_reducible assumption) | assumption)
                    have q241 : x9_2 < (t236.length : Int) := of_decide_eq_true (by first | (with_reducible assumption) | assumption)
                    obtain ⟨ad241, e241, hx241_0, hx241_1⟩ := at_T61 (Kd.V_reads' HO_0.out).2.2 x9_2 p241 q241
                    obtain rfl : ad240 = ad241 := (by injection e241)
                    replace p241 := eq_true p241
                    replace q241 := eq_true q241
                    go_wp2_with (first | ((with_reducible refine gate_builtin (b := .append) (xs := #[.tmp 46, .tmp 51]) rfl ?_); at_builtin; refine Kd.R_append k61 (w0 := w) w.heap.size rfl (.tmp 46) (.tmp 51) 31 61 (.agg #[(.int .i64 0), (.int .i64 0)]) 16 rfl Try.underlying31 info61 rfl (by decide) (by omega) u8 x8_2 (⟨(rd_T61 t236 x9_2).f0, (rd_T61 t236 x9_2).f1⟩ : S61) [.int .i64 ((rd_T61 t236 x9_2).f0), .int .i64 ((rd_T61 t236 x9_2).f1)] (fun k_ => (w.heap.size ≤ k_)) (fun _ => False) rfl rfl ?aP (fun _ hk => hk.elim) ?aF ?aO ?aB ?aS ?aL ?_; (case aP => exact k61_mkM _ _ _ (⟨(rd_T61 t236 x9_2).f0, (rd_T61 t236 x9_2).f1⟩ : S61)); (case aB => exact (by repeat (first | (with_reducible first | exact HB.out | apply below_alloc | apply pw_below_drewN | apply below_drew1) | exact HB.out))); (case aF => exact (fun k_ hk => (Nat.le_trans (below_size (by repeat (first | (with_reducible first | exact HB.out | apply below_alloc | apply pw_below_drewN | apply below_drew1) | exact HB.out))) hk))); (case aO => exact (by (with_reducible repeat (first | apply Kd.R_alloc | apply Kd.R_drewN | apply Kd.R_drew)); exact HO_8.out)); (case aS => exact (below_size (by repeat (first | (with_reducible first | exact HB.out | apply below_alloc | apply pw_below_drewN | apply below_drew1) | exact HB.out)))); (case aL => have := LMc17.out; omega); intro v243 w19 ho hb hg hat; rw [← Ny242.out] at ho; have n0_ := Aside0.mk (Kd.V_afterv (ok := (fun k_ => (P0_ k_ ∨ w.heap.size ≤ k_))) (by (with_reducible repeat (first | apply Kd.V_alloc | apply Kd.V_drewN | apply Kd.V_drew)); exact HO_0.out) hg hat); have n1_ := Aside0.mk (hb); have n2_ := Aside0.mk (ho); clear HO_0; clear HB; clear HO_8; have HO_0 := n0_; have HB := n1_; have HO244 := n2_; clear n0_ n1_ n2_; clear ho hb hg hat))
                    go_roundg k2
                    case measure => have := HJ4.out; have := HK2.out; omega
                    case rel => exact ⟨(y242), (wrap64 (x9_2 + 1)), (by first | rfl | (simp; done) | (simp [*]; done)), H', ⟨by have := HJ4.out; have := HK2.out; omega⟩, ⟨by (with_reducible repeat (first | apply Kd.V_alloc | apply Kd.V_drewN | apply Kd.V_drew)); exact HO_0.out⟩, ⟨by (with_reducible repeat (first | apply Kd.R_alloc | apply Kd.R_drewN | apply Kd.R_drew)); exact HO244.out⟩, ⟨by repeat (first | (with_reducible first | exact HB.out | apply below_alloc | apply pw_below_drewN | apply below_drew1) | exact HB.out)⟩⟩
                  · rw [if_neg c17] at H
                    exact absurd H (by simp)
                · rw [if_neg c16] at H
                  have c16b0 : decide (((rd_T61 t236 x9_2).f1) ≤ a2) = false := decide_eq_false c16
                  clear c16
                  have H' := Aside0.mk H
                  clear H
                  obtain ⟨Ao20, co20, eo20⟩ := Kd.V_slice HO_0.out
                  subst eo20
                  have p240 : 0 ≤ (x9_2 : Int) := of_decide_eq_true (by first | (with_reducible assumption) | assumption)
                  have q240 : x9_2 < (t236.length : Int) := of_decide_eq_true (by first | (with_reducible assumption) | assumption)
                  obtain ⟨ad240, e240, hx240_0, hx240_1⟩ := at_T61 (Kd.V_reads' HO_0.out).2.2 x9_2 p240 q240
                  cases e240
                  replace p240 := eq_true p240
                  replace q240 := eq_true q240
                  go_wp2
                  go_roundg k2
                  case measure => have := HJ4.out; have := HK2.out; omega
                  case rel => exact ⟨(x8_2), (wrap64 (x9_2 + 1)), (by first | rfl | (simp; done) | (simp [*]; done)), H', ⟨by have := HJ4.out; have := HK2.out; omega⟩, ⟨by (with_reducible repeat (first | apply Kd.V_alloc | apply Kd.V_drewN | apply Kd.V_drew)); exact HO_0.out⟩, ⟨by (with_reducible repeat (first | apply Kd.R_alloc | apply Kd.R_drewN | apply Kd.R_drew)); exact HO_8.out⟩, ⟨by repeat (first | (with_reducible first | exact HB.out | apply below_alloc | apply pw_below_drewN | apply below_drew1) | exact HB.out)⟩⟩
              · rw [if_neg c15] at H
                exact absurd H (by simp)
            · rw [if_neg c14] at H
              have c14b0 : decide (x9_2 < (t236.length : Int)) = false := decide_eq_false c14
              clear c14
              by_cases c21 : x8_2.length < 8796093022208
              · rw [if_pos c21] at H
                have LMc21 := Aside0.mk c21
                clear c21
                obtain ⟨y245, hy245⟩ : ∃ y_ : List (S61), y_ = (x8_2 ++ [(⟨a1, a2⟩ : S61)]) := ⟨_, rfl⟩
                replace H : (tenterhookref17_Put.l1 k2 t236 a2 y245 0) = some (r1, r2) := by first | (rw [hy245]; with_reducible exact H) | (have H2_ := (Option.bind_some _ _).symm.trans H; rw [hy245]; with_reducible exact H2_) | (have H2_ := (Option.bind_some _ _).symm.trans H; with_reducible exact H2_) | with_reducible exact H | (rw [hy245]; exact H) | exact H
                have Ny245 := Aside0.mk hy245
                clear hy245
                have H' := Aside0.mk H
                clear H
                obtain ⟨Ao22, co22, eo22⟩ := Kd.V_slice HO_0.out
                subst eo22
                go_wp2_with (first | ((with_reducible refine gate_builtin (b := .append) (xs := #[.tmp 53, .tmp 57]) rfl ?_); at_builtin; refine Kd.R_append k61 (w0 := w) w.heap.size rfl (.tmp 53) (.tmp 57) 31 61 (.agg #[(.int .i64 0), (.int .i64 0)]) 16 rfl Try.underlying31 info61 rfl (by decide) (by omega) u8 x8_2 (⟨a1, a2⟩ : S61) [.int .i64 a1, .int .i64 a2] (fun k_ => (w.heap.size ≤ k_)) (fun _ => False) rfl rfl ?aP (fun _ hk => hk.elim) ?aF ?aO ?aB ?aS ?aL ?_; (case aP => exact k61_mkM _ _ _ (⟨a1, a2⟩ : S61)); (case aB => exact (by repeat (first | (with_reducible first | exact HB.out | apply below_alloc | apply pw_below_drewN | apply below_drew1) | exact HB.out))); (case aF => exact (fun k_ hk => (Nat.le_trans (below_size (by repeat (first | (with_reducible first | exact HB.out | apply below_alloc | apply pw_below_drewN | apply below_drew1) | exact HB.out))) hk))); (case aO => exact (by (with_reducible repeat (first | apply Kd.R_alloc | apply Kd.R_drewN | apply Kd.R_drew)); exact HO_8.out)); (case aS => exact (below_size (by repeat (first | (with_reducible first | exact HB.out | apply below_alloc | apply pw_below_drewN | apply below_drew1) | exact HB.out)))); (case aL => have := LMc21.out; omega); intro v246 w23 ho hb hg hat; rw [← Ny245.out] at ho; have n0_ := Aside0.mk (Kd.V_afterv (ok := (fun k_ => (P0_ k_ ∨ w.heap.size ≤ k_))) (by (with_reducible repeat (first | apply Kd.V_alloc | apply Kd.V_drewN | apply Kd.V_drew)); exact HO_0.out) hg hat); have n1_ := Aside0.mk (hb); have n2_ := Aside0.mk (ho); clear HO_0; clear HB; clear HO_8; have HO_0 := n0_; have HB := n1_; have HO247 := n2_; clear n0_ n1_ n2_; clear ho hb hg hat))
                go_loopg [8, 10] k2 (fun kq v8 v10 w' => ∃ (x8_3 : List (S61)) (x10_3 : Int), v10 = .int .i64 x10_3 ∧ Aside0 (tenterhookref17_Put.l1 kq t236 a2 x8_3 x10_3 = some (r1, r2)) ∧ Aside0 (kq ≤ k2) ∧ Aside0 (Kd.V k61 61 w' w.heap.size (fun k_ => (P0_ k_ ∨ w.heap.size ≤ k_) ∧ some k_ ≠ (v8 : Value).ownBlock) (.slice Ao22 t236.length co22) t236) ∧ Aside0 (Kd.R k61 61 w' w.heap.size (fun k_ => (w.heap.size ≤ k_)) v8 x8_3) ∧ Aside0 (Below w.heap.size w w'))
                case atStart => exact ⟨(y245), (0), (by first | rfl | (simp; done) | (simp [*]; done)), H', ⟨Nat.le_refl _⟩, ⟨by (with_reducible repeat (first | apply Kd.V_alloc | apply Kd.V_drewN | apply Kd.V_drew)); exact HO_0.out⟩, ⟨by (with_reducible repeat (first | apply Kd.R_alloc | apply Kd.R_drewN | apply Kd.R_drew)); exact HO247.out⟩, ⟨by repeat (first | (with_reducible first | exact HB.out | apply below_alloc | apply pw_below_drewN | apply below_drew1) | exact HB.out)⟩⟩
                case round =>
                  clear H'
                  try clear c1
                  try clear c2
                  try clear p2
                  try clear q2
                  try clear hx2
                  try clear c3
                  try clear p6
                  try clear c7
                  try clear c7b0
                  try clear c8
                  try clear c8b0
                  try clear c9
                  try clear c9b0
                  try clear c10
                  try clear c10b0
                  try clear c13
                  try clear c14
                  try clear c14b0
                  try clear c15
                  try clear c15b0
                  try clear c16
                  try clear c16b0
                  try clear c17
                  try clear c21
                  try clear hx240_0
                  try clear hx240_1
                  try clear hx241_0
                  try clear hx241_1
                  try clear p2
                  try clear p240
                  try clear p241
                  try clear q240
                  try clear q241
                  obtain ⟨x8_3, x10_3, rfl, HA, HK3, HO_0, HO_8, HB⟩ := hrel
                  cases gk with
                  | zero => exact absurd HA.out (by simp [tenterhookref17_Put.l1])
                  | succ k3 =>
                    have H := HA.out
                    clear HA
                    simp only [tenterhookref17_Put.l1] at H
                    by_cases c24 : x10_3 < (t236.length : Int)
                    · rw [if_pos c24] at H
                      have c24b0 : decide (x10_3 < (t236.length : Int)) = true := decide_eq_true c24
                      clear c24
                      by_cases c25 : 0 ≤ x10_3
                      · rw [if_pos c25] at H
                        have c25b0 : decide (0 ≤ x10_3) = true := decide_eq_true c25
                        clear c25
                        by_cases c26 : ((rd_T61 t236 x10_3).f1) > a2
                        · rw [if_pos c26] at H
                          have c26b0 : decide (a2 < ((rd_T61 t236 x10_3).f1)) = true := decide_eq_true c26
                          clear c26
                          by_cases c27 : x8_3.length < 8796093022208
                          · rw [if_pos c27] at H
                            have LMc27 := Aside0.mk c27
                            clear c27
                            obtain ⟨y250, hy250⟩ : ∃ y_ : List (S61), y_ = (x8_3 ++ [(⟨(rd_T61 t236 x10_3).f0, (rd_T61 t236 x10_3).f1⟩ : S61)]) := ⟨_, rfl⟩
                            replace H : (tenterhookref17_Put.l1 k3 t236 a2 y250 (wrap64 (x10_3 + 1))) = some (r1, r2) := by first | (rw [hy250]; with_reducible exact H) | (have H2_ := (Option.bind_some _ _).symm.trans H; rw [hy250]; with_reducible exact H2_) | (have H2_ := (Option.bind_some _ _).symm.trans H; with_reducible exact H2_) | with_reducible exact H | (rw [hy250]; exact H) | exact H
                            have Ny250 := Aside0.mk hy250
                            clear hy250
                            have H' := Aside0.mk H
                            clear H
                            have p248 : 0 ≤ (x10_3 : Int) := of_decide_eq_true (by first | (with_reducible assumption) | assumption)
                            have q248 : x10_3 < (t236.length : Int) := of_decide_eq_true (by first | (with_reducible assumption) | assumption)
                            obtain ⟨ad248, e248, hx248_0, hx248_1⟩ := at_T61 (Kd.V_reads' HO_0.out).2.2 x10_3 p248 q248
                            cases e248
                            replace p248 := eq_true p248
                            replace q248 := eq_true q248
                            have p249 : 0 ≤ (x10_3 : Int) := of_decide_eq_true (by first | (with_reducible assumption) | assumption)
                            have q249 : x10_3 < (t236.length : Int) := of_decide_eq_true (by first | (with_reducible assumption) | assumption)
                            obtain ⟨ad249, e249, hx249_0, hx249_1⟩ := at_T61 (Kd.V_reads' HO_0.out).2.2 x10_3 p249 q249
                            obtain rfl : ad248 = ad249 := (by injection e249)
                            replace p249 := eq_true p249
                            replace q249 := eq_true q249
                            go_wp2_with (first | ((with_reducible refine gate_builtin (b := .append) (xs := #[.tmp 72, .tmp 77]) rfl ?_); at_builtin; refine Kd.R_append k61 (w0 := w) w.heap.size rfl (.tmp 72) (.tmp 77) 31 61 (.agg #[(.int .i64 0), (.int .i64 0)]) 16 rfl Try.underlying31 info61 rfl (by decide) (by omega) u8 x8_3 (⟨(rd_T61 t236 x10_3).f0, (rd_T61 t236 x10_3).f1⟩ : S61) [.int .i64 ((rd_T61 t236 x10_3).f0), .int .i64 ((rd_T61 t236 x10_3).f1)] (fun k_ => (w.heap.size ≤ k_)) (fun _ => False) rfl rfl ?aP (fun _ hk => hk.elim) ?aF ?aO ?aB ?aS ?aL ?_; (case aP => exact k61_mkM _ _ _ (⟨(rd_T61 t236 x10_3).f0, (rd_T61 t236 x10_3).f1⟩ : S61)); (case aB => exact (by repeat (first | (with_reducible first | exact HB.out | apply below_alloc | apply pw_below_drewN | apply below_drew1) | exact HB.out))); (case aF => exact (fun k_ hk => (Nat.le_trans (below_size (by repeat (first | (with_reducible first | exact HB.out | apply below_alloc | apply pw_below_drewN | apply below_drew1) | exact HB.out))) hk))); (case aO => exact (by (with_reducible repeat (first | apply Kd.R_alloc | apply Kd.R_drewN | apply Kd.R_drew)); exact HO_8.out)); (case aS => exact (below_size (by repeat (first | (with_reducible first | exact HB.out | apply below_alloc | apply pw_below_drewN | apply below_drew1) | exact HB.out)))); (case aL => have := LMc27.out; omega); intro v251 w28 ho hb hg hat; rw [← Ny250.out] at ho; have n0_ := Aside0.mk (Kd.V_afterv (ok := (fun k_ => (P0_ k_ ∨ w.heap.size ≤ k_))) (by (with_reducible repeat (first | apply Kd.V_alloc | apply Kd.V_drewN | apply Kd.V_drew)); exact HO_0.out) hg hat); have n1_ := Aside0.mk (hb); have n2_ := Aside0.mk (ho); clear HO_0; clear HB; clear HO_8; have HO_0 := n0_; have HB := n1_; have HO252 := n2_; clear n0_ n1_ n2_; clear ho hb hg hat))
                            go_roundg k3
                            case measure => have := HJ4.out; have := HK2.out; have := HK3.out; omega
                            case rel => exact ⟨(y250), (wrap64 (x10_3 + 1)), (by first | rfl | (simp; done) | (simp [*]; done)), H', ⟨by have := HJ4.out; have := HK2.out; have := HK3.out; omega⟩, ⟨by (with_reducible repeat (first | apply Kd.V_alloc | apply Kd.V_drewN | apply Kd.V_drew)); exact HO_0.out⟩, ⟨by (with_reducible repeat (first | apply Kd.R_alloc | apply Kd.R_drewN | apply Kd.R_drew)); exact HO252.out⟩, ⟨by repeat (first | (with_reducible first | exact HB.out | apply below_alloc | apply pw_below_drewN | apply below_drew1) | exact HB.out)⟩⟩
                          · rw [if_neg c27] at H
                            exact absurd H (by simp)
                        · rw [if_neg c26] at H
                          have c26b0 : decide (a2 < ((rd_T61 t236 x10_3).f1)) = false := decide_eq_false c26
                          clear c26
                          have H' := Aside0.mk H
                          clear H
                          have p248 : 0 ≤ (x10_3 : Int) := of_decide_eq_true (by first | (with_reducible assumption) | assumption)
                          have q248 : x10_3 < (t236.length : Int) := of_decide_eq_true (by first | (with_reducible assumption) | assumption)
                          obtain ⟨ad248, e248, hx248_0, hx248_1⟩ := at_T61 (Kd.V_reads' HO_0.out).2.2 x10_3 p248 q248
                          cases e248
                          replace p248 := eq_true p248
                          replace q248 := eq_true q248
                          go_wp2
                          go_roundg k3
                          case measure => have := HJ4.out; have := HK2.out; have := HK3.out; omega
                          case rel => exact ⟨(x8_3), (wrap64 (x10_3 + 1)), (by first | rfl | (simp; done) | (simp [*]; done)), H', ⟨by have := HJ4.out; have := HK2.out; have := HK3.out; omega⟩, ⟨by (with_reducible repeat (first | apply Kd.V_alloc | apply Kd.V_drewN | apply Kd.V_drew)); exact HO_0.out⟩, ⟨by (with_reducible repeat (first | apply Kd.R_alloc | apply Kd.R_drewN | apply Kd.R_drew)); exact HO_8.out⟩, ⟨by repeat (first | (with_reducible first | exact HB.out | apply below_alloc | apply pw_below_drewN | apply below_drew1) | exact HB.out)⟩⟩
                      · rw [if_neg c25] at H
                        exact absurd H (by simp)
                    · rw [if_neg c24] at H
                      have c24b0 : decide (x10_3 < (t236.length : Int)) = false := decide_eq_false c24
                      clear c24
                      simp only [Option.some.injEq, Prod.mk.injEq] at H
                      obtain ⟨rfl, rfl⟩ := H
                      go_wp2
                      go_ret2
                      exact ⟨_, by first | rfl | (simp [errW_none, errW_some] <;> rfl) | (simp [*, errW_none, errW_some] <;> rfl), Kd.V_mono (Kd.R_V (by (with_reducible repeat (first | apply Kd.R_alloc | apply Kd.R_drewN | apply Kd.R_drew)); exact HO_8.out)) (fun k_ hk => by first | exact ⟨(.inr (hk.1)), hk.2⟩ | exact (.inr (hk))), by repeat (first | (with_reducible first | exact HB.out | apply below_alloc | apply pw_below_drewN | apply below_drew1) | exact HB.out)⟩
              · rw [if_neg c21] at H
                exact absurd H (by simp)

/-! ### tenterhookref17_Due: function 15 -/
def tenterhookref17_Due.l0 : Nat → List (S61) → Int → List (S61) → List Int → Int → Option ((List (S61)) × List Int)
  | 0, _, _, _, _, _ => none
  | k + 1, x0, x1, x6, x7, x8 => if x8 < (x0.length : Int) then (if 0 ≤ x8 then (if ((rd_T61 x0 x8).f1) > x1 then (if x6.length < 8796093022208 then (tenterhookref17_Due.l0 k x0 x1 (x6 ++ [(⟨(rd_T61 x0 x8).f0, (rd_T61 x0 x8).f1⟩ : S61)]) x7 (wrap64 (x8 + 1))) else (none)) else (if x7.length < 17592186044416 then (tenterhookref17_Due.l0 k x0 x1 x6 (x7 ++ [(rd_T61 x0 x8).f0]) (wrap64 (x8 + 1))) else (none))) else (none)) else (some (x6, x7))
def tenterhookref17_Due.f (k : Nat) (l0 : List (S61)) (a1 : Int) : Option ((List (S61)) × List Int) := (tenterhookref17_sane.f k l0).bind fun t253 => (tenterhookref17_Due.l0 k t253 a1 ([] : List (S61)) ([] : List Int) 0)
theorem tenterhookref17_Due.mono_l : ∀ k, (∀ y0 y1 y2 y3 y4, LeO (tenterhookref17_Due.l0 k y0 y1 y2 y3 y4) (tenterhookref17_Due.l0 (k + 1) y0 y1 y2 y3 y4))
  | 0 => fun _ _ _ _ _ r h => by simp [tenterhookref17_Due.l0] at h
  | k + 1 => by
    have ih0 := tenterhookref17_Due.mono_l k
    · intro y0 y1 y2 y3 y4
      unfold tenterhookref17_Due.l0
      repeat' first
      | (with_reducible exact ih0 _ _ _ _ _)
      | (with_reducible exact tenterhookref17_sane.mono _ _)
      | (with_reducible exact LeO.refl _)
      | (with_reducible exact LeO.none _)
      | (with_reducible refine LeO.ite ?_ ?_)
      | (with_reducible refine LeO.bind ?_ (fun _ => ?_))
      | exact ih0 _ _ _ _ _
      | exact tenterhookref17_sane.mono _ _
      | exact LeO.none _
      | refine LeO.ite ?_ ?_
      | refine LeO.bind ?_ (fun _ => ?_)
theorem tenterhookref17_Due.mono : ∀ a0 a1 k, LeO (tenterhookref17_Due.f k a0 a1) (tenterhookref17_Due.f (k + 1) a0 a1) := by
  intro a0 a1 k
  have ih0 := tenterhookref17_Due.mono_l k
  unfold tenterhookref17_Due.f
  repeat' first
      | (with_reducible exact ih0 _ _ _ _ _)
      | (with_reducible exact tenterhookref17_sane.mono _ _)
      | (with_reducible exact LeO.refl _)
      | (with_reducible exact LeO.none _)
      | (with_reducible refine LeO.ite ?_ ?_)
      | (with_reducible refine LeO.bind ?_ (fun _ => ?_))
      | exact ih0 _ _ _ _ _
      | exact tenterhookref17_sane.mono _ _
      | exact LeO.none _
      | refine LeO.ite ?_ ?_
      | refine LeO.bind ?_ (fun _ => ?_)
set_option maxHeartbeats 8000000 in
set_option maxRecDepth 100000 in
theorem tenterhookref17_Due.calls (k : Nat) (A0 : Option Addr) (c0 : Nat) (l0 : List (S61)) (a1 : Int) (r1 : List (S61)) (r2 : List Int) (w : World) (hr0 : Kd.C k61 w A0 l0.length l0) (hc0 : l0.length ≤ c0) (h : tenterhookref17_Due.f k l0 a1 = some (r1, r2)) :
    Calls Try.prog 15 #[.slice A0 l0.length c0, .int .i64 a1] w fun e w' => ∃ v0_ v1_ : Value, e = .returned (.tuple #[v0_, v1_]) ∧ Kd.R k61 61 w' w.heap.size (fun _ => True) v0_ r1 ∧ Kd.R (Kd.int .i64) 3 w' w.heap.size (fun _ => True) v1_ r2 ∧ Below w.heap.size w w' := by
  have hu61 := Try.underlying61
  have HR0 := Aside0.mk hr0
  have HC0 := Aside0.mk hc0
  clear hr0 hc0
  have HB := Aside0.mk (Below.refl w.heap.size w)
  have H : ((tenterhookref17_sane.f k l0).bind fun t253 => (tenterhookref17_Due.l0 k t253 a1 ([] : List (S61)) ([] : List Int) 0)) = some (r1, r2) := h
  clear h
  replace H := Option.bind_eq_some_iff.mp H
  obtain ⟨t253, A30, H⟩ := H
  replace H : (tenterhookref17_Due.l0 k t253 a1 ([] : List (S61)) ([] : List Int) 0) = some (r1, r2) := H
  have A3 := Aside0.mk A30
  clear A30
  have H' := Aside0.mk H
  clear H
  go_enter Try.func15, Try.ntmps15
  go_wp2_with (first | ((with_reducible refine gate_callee (f := 31) rfl ?_); refine goesL_ (some 10) rfl rfl Try.func31 (by kernel_rfl) rfl #[.slice A0 l0.length c0] rfl (by (try simp only [List.map_toArray, List.map_cons, List.map_nil]); first | done | rfl | (simp only [List.length_drop, List.length_take]; rfl)) ?_; (with_reducible refine (tenterhookref17_sane.calls k (fun k_ => k_ < w.heap.size) _ _ l0 t253 _ ?side1 A3.out).mono ?_); (case side1 => exact Kd.V_mk HC0.out (Kd.F_below (Kd.C_F k61_heap HR0.out) (by repeat (first | (with_reducible first | exact HB.out | apply below_alloc | apply pw_below_drewN | apply below_drew1) | exact HB.out)))); rintro e w4 ⟨v254, rfl, ho0, hb⟩; refine ⟨_, rfl, ?_⟩; have n0_ := Aside0.mk (Kd.V_lower (Kd.V_mono (ok' := fun k_ => True) ho0 (fun k_ hk_ => trivial)) (below_size (by repeat (first | (with_reducible first | exact HB.out | apply below_alloc | apply pw_below_drewN | apply below_drew1) | exact HB.out)))); have n1_ := Aside0.mk (below_step (by repeat (first | (with_reducible first | exact HB.out | apply below_alloc | apply pw_below_drewN | apply below_drew1) | exact HB.out)) hb); clear HB; have HO255 := n0_; have HB := n1_; clear n0_ n1_; (try clear hb); (try clear hb2); (try clear hk); (try clear hi); (try clear ho0)))
  go_loopg [6, 7, 8] k (fun kq v6 v7 v8 w' => ∃ (x6_1 : List (S61)) (x7_1 : List Int) (x8_1 : Int), v8 = .int .i64 x8_1 ∧ Aside0 (tenterhookref17_Due.l0 kq t253 a1 x6_1 x7_1 x8_1 = some (r1, r2)) ∧ Aside0 (kq ≤ k) ∧ Aside0 (Kd.V k61 61 w' w.heap.size (fun k_ => some k_ ≠ (v6 : Value).ownBlock ∧ some k_ ≠ (v7 : Value).ownBlock) v254 t253) ∧ Aside0 (Kd.R k61 61 w' w.heap.size (fun _ => True) v6 x6_1) ∧ Aside0 (Kd.R (Kd.int .i64) 3 w' w.heap.size (fun _ => True) v7 x7_1) ∧ Aside0 (Below w.heap.size w w'))
  case atStart => exact ⟨(([] : List (S61))), (([] : List Int)), (0), (by first | rfl | (simp; done) | (simp [*]; done)), H', ⟨Nat.le_refl _⟩, ⟨by (with_reducible repeat (first | apply Kd.V_alloc | apply Kd.V_drewN | apply Kd.V_drew)); exact Kd.V_mono HO255.out (fun _ hk => ⟨(by simp [Value.ownBlock]), (by simp [Value.ownBlock])⟩)⟩, ⟨by first | exact Kd.R_nil _ _ _ _ _ | exact Kd.N_nil _ _ _ _ _ | exact Kd.V_nil _ _ _ _ _ | exact Kd.Q_nil _ _ _ _ _ | exact Kd.S_nil _ _ _ _ _⟩, ⟨by first | exact Kd.R_nil _ _ _ _ _ | exact Kd.N_nil _ _ _ _ _ | exact Kd.V_nil _ _ _ _ _ | exact Kd.Q_nil _ _ _ _ _ | exact Kd.S_nil _ _ _ _ _⟩, ⟨by repeat (first | (with_reducible first | exact HB.out | apply below_alloc | apply pw_below_drewN | apply below_drew1) | exact HB.out)⟩⟩
  case round =>
    clear H'
    try clear c1
    try clear p2
    try clear c3
    obtain ⟨x6_1, x7_1, x8_1, rfl, HA, HK1, HO_0, HO_6, HO_7, HB⟩ := hrel
    cases gk with
    | zero => exact absurd HA.out (by simp [tenterhookref17_Due.l0])
    | succ k1 =>
      have H := HA.out
      clear HA
      simp only [tenterhookref17_Due.l0] at H
      by_cases c5 : x8_1 < (t253.length : Int)
      · rw [if_pos c5] at H
        have c5b0 : decide (x8_1 < (t253.length : Int)) = true := decide_eq_true c5
        clear c5
        by_cases c6 : 0 ≤ x8_1
        · rw [if_pos c6] at H
          have c6b0 : decide (0 ≤ x8_1) = true := decide_eq_true c6
          clear c6
          by_cases c7 : ((rd_T61 t253 x8_1).f1) > a1
          · rw [if_pos c7] at H
            have c7b0 : decide (a1 < ((rd_T61 t253 x8_1).f1)) = true := decide_eq_true c7
            clear c7
            by_cases c8 : x6_1.length < 8796093022208
            · rw [if_pos c8] at H
              have LMc8 := Aside0.mk c8
              clear c8
              obtain ⟨y258, hy258⟩ : ∃ y_ : List (S61), y_ = (x6_1 ++ [(⟨(rd_T61 t253 x8_1).f0, (rd_T61 t253 x8_1).f1⟩ : S61)]) := ⟨_, rfl⟩
              replace H : (tenterhookref17_Due.l0 k1 t253 a1 y258 x7_1 (wrap64 (x8_1 + 1))) = some (r1, r2) := by first | (rw [hy258]; with_reducible exact H) | (have H2_ := (Option.bind_some _ _).symm.trans H; rw [hy258]; with_reducible exact H2_) | (have H2_ := (Option.bind_some _ _).symm.trans H; with_reducible exact H2_) | with_reducible exact H | (rw [hy258]; exact H) | exact H
              have Ny258 := Aside0.mk hy258
              clear hy258
              have H' := Aside0.mk H
              clear H
              obtain ⟨Ao9, co9, eo9⟩ := Kd.V_slice HO_0.out
              subst eo9
              have p256 : 0 ≤ (x8_1 : Int) := of_decide_eq_true (by first | (with_reducible assumption) | assumption)
              have q256 : x8_1 < (t253.length : Int) := of_decide_eq_true (by first | (with_reducible assumption) | assumption)
              obtain ⟨ad256, e256, hx256_0, hx256_1⟩ := at_T61 (Kd.V_reads' HO_0.out).2.2 x8_1 p256 q256
              cases e256
              replace p256 := eq_true p256
              replace q256 := eq_true q256
              have p257 : 0 ≤ (x8_1 : Int) := of_decide_eq_true (by first | (with_reducible assumption) | assumption)
              have q257 : x8_1 < (t253.length : Int) := of_decide_eq_true (by first | (with_reducible assumption) | assumption)
              obtain ⟨ad257, e257, hx257_0, hx257_1⟩ := at_T61 (Kd.V_reads' HO_0.out).2.2 x8_1 p257 q257
              obtain rfl : ad256 = ad257 := (by injection e257)
              replace p257 := eq_true p257
              replace q257 := eq_true q257
              go_wp2_with (first | ((with_reducible refine gate_builtin (b := .append) (xs := #[.tmp 24, .tmp 29]) rfl ?_); at_builtin; refine Kd.R_append k61 (w0 := w) w.heap.size rfl (.tmp 24) (.tmp 29) 31 61 (.agg #[(.int .i64 0), (.int .i64 0)]) 16 rfl Try.underlying31 info61 rfl (by decide) (by omega) u6 x6_1 (⟨(rd_T61 t253 x8_1).f0, (rd_T61 t253 x8_1).f1⟩ : S61) [.int .i64 ((rd_T61 t253 x8_1).f0), .int .i64 ((rd_T61 t253 x8_1).f1)] (fun _ => True) (fun _ => False) rfl rfl ?aP (fun _ hk => hk.elim) ?aF ?aO ?aB ?aS ?aL ?_; (case aP => exact k61_mkM _ _ _ (⟨(rd_T61 t253 x8_1).f0, (rd_T61 t253 x8_1).f1⟩ : S61)); (case aB => exact (by repeat (first | (with_reducible first | exact HB.out | apply below_alloc | apply pw_below_drewN | apply below_drew1) | exact HB.out))); (case aF => exact (fun _ _ => trivial)); (case aO => exact (by (with_reducible repeat (first | apply Kd.R_alloc | apply Kd.R_drewN | apply Kd.R_drew)); exact HO_6.out)); (case aS => exact (below_size (by repeat (first | (with_reducible first | exact HB.out | apply below_alloc | apply pw_below_drewN | apply below_drew1) | exact HB.out)))); (case aL => have := LMc8.out; omega); intro v259 w10 ho hb hg hat; rw [← Ny258.out] at ho; have n0_ := Aside0.mk (Kd.V_afterv (ok := (fun k_ => some k_ ≠ (u7 : Value).ownBlock)) (by (with_reducible repeat (first | apply Kd.V_alloc | apply Kd.V_drewN | apply Kd.V_drew)); exact Kd.V_mono HO_0.out (fun _ hk => ⟨hk.2, hk.1⟩)) hg hat); have n1_ := Aside0.mk (Kd.R_over' (by (with_reducible repeat (first | apply Kd.R_alloc | apply Kd.R_drewN | apply Kd.R_drew)); exact HO_7.out) (Kd.R_typed (by (with_reducible repeat (first | apply Kd.R_alloc | apply Kd.R_drewN | apply Kd.R_drew)); exact HO_6.out)) (by decide) hg); have n2_ := Aside0.mk (hb); have n3_ := Aside0.mk (ho); clear HO_0; clear HO_7; clear HB; clear HO_6; have HO_0 := n0_; have HO_7 := n1_; have HB := n2_; have HO260 := n3_; clear n0_ n1_ n2_ n3_; clear ho hb hg hat))
              go_roundg k1
              case measure => have := HK1.out; omega
              case rel => exact ⟨(y258), (x7_1), (wrap64 (x8_1 + 1)), (by first | rfl | (simp; done) | (simp [*]; done)), H', ⟨by have := HK1.out; omega⟩, ⟨by (with_reducible repeat (first | apply Kd.V_alloc | apply Kd.V_drewN | apply Kd.V_drew)); exact Kd.V_mono HO_0.out (fun _ hk => ⟨hk.2, hk.1⟩)⟩, ⟨by (with_reducible repeat (first | apply Kd.R_alloc | apply Kd.R_drewN | apply Kd.R_drew)); exact HO260.out⟩, ⟨by (with_reducible repeat (first | apply Kd.R_alloc | apply Kd.R_drewN | apply Kd.R_drew)); exact HO_7.out⟩, ⟨by repeat (first | (with_reducible first | exact HB.out | apply below_alloc | apply pw_below_drewN | apply below_drew1) | exact HB.out)⟩⟩
            · rw [if_neg c8] at H
              exact absurd H (by simp)
          · rw [if_neg c7] at H
            have c7b0 : decide (a1 < ((rd_T61 t253 x8_1).f1)) = false := decide_eq_false c7
            clear c7
            by_cases c11 : x7_1.length < 17592186044416
            · rw [if_pos c11] at H
              have LMc11 := Aside0.mk c11
              clear c11
              obtain ⟨y262, hy262⟩ : ∃ y_ : List Int, y_ = (x7_1 ++ [(rd_T61 t253 x8_1).f0]) := ⟨_, rfl⟩
              replace H : (tenterhookref17_Due.l0 k1 t253 a1 x6_1 y262 (wrap64 (x8_1 + 1))) = some (r1, r2) := by first | (rw [hy262]; with_reducible exact H) | (have H2_ := (Option.bind_some _ _).symm.trans H; rw [hy262]; with_reducible exact H2_) | (have H2_ := (Option.bind_some _ _).symm.trans H; with_reducible exact H2_) | with_reducible exact H | (rw [hy262]; exact H) | exact H
              have Ny262 := Aside0.mk hy262
              clear hy262
              have H' := Aside0.mk H
              clear H
              obtain ⟨Ao12, co12, eo12⟩ := Kd.V_slice HO_0.out
              subst eo12
              have p256 : 0 ≤ (x8_1 : Int) := of_decide_eq_true (by first | (with_reducible assumption) | assumption)
              have q256 : x8_1 < (t253.length : Int) := of_decide_eq_true (by first | (with_reducible assumption) | assumption)
              obtain ⟨ad256, e256, hx256_0, hx256_1⟩ := at_T61 (Kd.V_reads' HO_0.out).2.2 x8_1 p256 q256
              cases e256
              replace p256 := eq_true p256
              replace q256 := eq_true q256
              have p261 : 0 ≤ (x8_1 : Int) := of_decide_eq_true (by first | (with_reducible assumption) | assumption)
              have q261 : x8_1 < (t253.length : Int) := of_decide_eq_true (by first | (with_reducible assumption) | assumption)
              obtain ⟨ad261, e261, hx261_0, hx261_1⟩ := at_T61 (Kd.V_reads' HO_0.out).2.2 x8_1 p261 q261
              obtain rfl : ad256 = ad261 := (by injection e261)
              replace p261 := eq_true p261
              replace q261 := eq_true q261
              go_wp2_with (first | ((with_reducible refine gate_builtin (b := .append) (xs := #[.tmp 31, .tmp 37]) rfl ?_); at_builtin; refine Kd.R_append (Kd.int .i64) (w0 := w) w.heap.size rfl (.tmp 31) (.tmp 37) 22 3 (.int .i64 0) 8 rfl Try.underlying22 info3 rfl (by decide) (by omega) u7 x7_1 ((rd_T61 t253 x8_1).f0) [.int .i64 ((rd_T61 t253 x8_1).f0)] (fun _ => True) (fun _ => False) rfl rfl ?aP (fun _ hk => hk.elim) ?aF ?aO ?aB ?aS ?aL ?_; (case aP => exact rfl); (case aB => exact (by repeat (first | (with_reducible first | exact HB.out | apply below_alloc | apply pw_below_drewN | apply below_drew1) | exact HB.out))); (case aF => exact (fun _ _ => trivial)); (case aO => exact (by (with_reducible repeat (first | apply Kd.R_alloc | apply Kd.R_drewN | apply Kd.R_drew)); exact HO_7.out)); (case aS => exact (below_size (by repeat (first | (with_reducible first | exact HB.out | apply below_alloc | apply pw_below_drewN | apply below_drew1) | exact HB.out)))); (case aL => have := LMc11.out; omega); intro v263 w13 ho hb hg hat; rw [← Ny262.out] at ho; have n0_ := Aside0.mk (Kd.V_afterv (ok := (fun k_ => some k_ ≠ (u6 : Value).ownBlock)) (by (with_reducible repeat (first | apply Kd.V_alloc | apply Kd.V_drewN | apply Kd.V_drew)); exact HO_0.out) hg hat); have n1_ := Aside0.mk (Kd.R_over' (by (with_reducible repeat (first | apply Kd.R_alloc | apply Kd.R_drewN | apply Kd.R_drew)); exact HO_6.out) (Kd.R_typed (by (with_reducible repeat (first | apply Kd.R_alloc | apply Kd.R_drewN | apply Kd.R_drew)); exact HO_7.out)) (by decide) hg); have n2_ := Aside0.mk (hb); have n3_ := Aside0.mk (ho); clear HO_0; clear HO_6; clear HB; clear HO_7; have HO_0 := n0_; have HO_6 := n1_; have HB := n2_; have HO264 := n3_; clear n0_ n1_ n2_ n3_; clear ho hb hg hat))
              go_roundg k1
              case measure => have := HK1.out; omega
              case rel => exact ⟨(x6_1), (y262), (wrap64 (x8_1 + 1)), (by first | rfl | (simp; done) | (simp [*]; done)), H', ⟨by have := HK1.out; omega⟩, ⟨by (with_reducible repeat (first | apply Kd.V_alloc | apply Kd.V_drewN | apply Kd.V_drew)); exact HO_0.out⟩, ⟨by (with_reducible repeat (first | apply Kd.R_alloc | apply Kd.R_drewN | apply Kd.R_drew)); exact HO_6.out⟩, ⟨by (with_reducible repeat (first | apply Kd.R_alloc | apply Kd.R_drewN | apply Kd.R_drew)); exact HO264.out⟩, ⟨by repeat (first | (with_reducible first | exact HB.out | apply below_alloc | apply pw_below_drewN | apply below_drew1) | exact HB.out)⟩⟩
            · rw [if_neg c11] at H
              exact absurd H (by simp)
        · rw [if_neg c6] at H
          exact absurd H (by simp)
      · rw [if_neg c5] at H
        have c5b0 : decide (x8_1 < (t253.length : Int)) = false := decide_eq_false c5
        clear c5
        simp only [Option.some.injEq, Prod.mk.injEq] at H
        obtain ⟨rfl, rfl⟩ := H
        obtain ⟨Ao14, co14, eo14⟩ := Kd.V_slice HO_0.out
        subst eo14
        go_wp2
        go_ret2
        exact ⟨_, _, by first | rfl | (simp [errW_none, errW_some] <;> rfl) | (simp [*, errW_none, errW_some] <;> rfl), by (with_reducible repeat (first | apply Kd.R_alloc | apply Kd.R_drewN | apply Kd.R_drew)); exact HO_6.out, by (with_reducible repeat (first | apply Kd.R_alloc | apply Kd.R_drewN | apply Kd.R_drew)); exact HO_7.out, by repeat (first | (with_reducible first | exact HB.out | apply below_alloc | apply pw_below_drewN | apply below_drew1) | exact HB.out)⟩

/-! ### tenterhookref17_Drop: function 17 -/
def tenterhookref17_Drop.l0 : Nat → List (S61) → Int → List (S61) → Int → Option ((List (S61)) × Bool)
  | 0, _, _, _, _ => none
  | k + 1, x0, x1, x6, x7 => if x7 < (x0.length : Int) then (if 0 ≤ x7 then (if ((rd_T61 x0 x7).f0) = x1 then (tenterhookref17_Drop.l0 k x0 x1 x6 (wrap64 (x7 + 1))) else (if x6.length < 8796093022208 then (tenterhookref17_Drop.l0 k x0 x1 (x6 ++ [(⟨(rd_T61 x0 x7).f0, (rd_T61 x0 x7).f1⟩ : S61)]) (wrap64 (x7 + 1))) else (none))) else (none)) else (some (x6, decide ((x6.length : Int) < (x0.length : Int))))
def tenterhookref17_Drop.f (k : Nat) (l0 : List (S61)) (a1 : Int) : Option ((List (S61)) × Bool) := (tenterhookref17_sane.f k l0).bind fun t268 => (tenterhookref17_Drop.l0 k t268 a1 ([] : List (S61)) 0)
theorem tenterhookref17_Drop.mono_l : ∀ k, (∀ y0 y1 y2 y3, LeO (tenterhookref17_Drop.l0 k y0 y1 y2 y3) (tenterhookref17_Drop.l0 (k + 1) y0 y1 y2 y3))
  | 0 => fun _ _ _ _ r h => by simp [tenterhookref17_Drop.l0] at h
  | k + 1 => by
    have ih0 := tenterhookref17_Drop.mono_l k
    · intro y0 y1 y2 y3
      unfold tenterhookref17_Drop.l0
      repeat' first
      | (with_reducible exact ih0 _ _ _ _)
      | (with_reducible exact tenterhookref17_sane.mono _ _)
      | (with_reducible exact LeO.refl _)
      | (with_reducible exact LeO.none _)
      | (with_reducible refine LeO.ite ?_ ?_)
      | (with_reducible refine LeO.bind ?_ (fun _ => ?_))
      | exact ih0 _ _ _ _
      | exact tenterhookref17_sane.mono _ _
      | exact LeO.none _
      | refine LeO.ite ?_ ?_
      | refine LeO.bind ?_ (fun _ => ?_)
theorem tenterhookref17_Drop.mono : ∀ a0 a1 k, LeO (tenterhookref17_Drop.f k a0 a1) (tenterhookref17_Drop.f (k + 1) a0 a1) := by
  intro a0 a1 k
  have ih0 := tenterhookref17_Drop.mono_l k
  unfold tenterhookref17_Drop.f
  repeat' first
      | (with_reducible exact ih0 _ _ _ _)
      | (with_reducible exact tenterhookref17_sane.mono _ _)
      | (with_reducible exact LeO.refl _)
      | (with_reducible exact LeO.none _)
      | (with_reducible refine LeO.ite ?_ ?_)
      | (with_reducible refine LeO.bind ?_ (fun _ => ?_))
      | exact ih0 _ _ _ _
      | exact tenterhookref17_sane.mono _ _
      | exact LeO.none _
      | refine LeO.ite ?_ ?_
      | refine LeO.bind ?_ (fun _ => ?_)
set_option maxHeartbeats 8000000 in
set_option maxRecDepth 100000 in
theorem tenterhookref17_Drop.calls (k : Nat) (A0 : Option Addr) (c0 : Nat) (l0 : List (S61)) (a1 : Int) (r1 : List (S61)) (r2 : Bool) (w : World) (hr0 : Kd.C k61 w A0 l0.length l0) (hc0 : l0.length ≤ c0) (h : tenterhookref17_Drop.f k l0 a1 = some (r1, r2)) :
    Calls Try.prog 17 #[.slice A0 l0.length c0, .int .i64 a1] w fun e w' => ∃ v0_ : Value, e = .returned (.tuple #[v0_, .bool r2]) ∧ Kd.R k61 61 w' w.heap.size (fun _ => True) v0_ r1 ∧ Below w.heap.size w w' := by
  have hu61 := Try.underlying61
  have HR0 := Aside0.mk hr0
  have HC0 := Aside0.mk hc0
  clear hr0 hc0
  have HB := Aside0.mk (Below.refl w.heap.size w)
  have H : ((tenterhookref17_sane.f k l0).bind fun t268 => (tenterhookref17_Drop.l0 k t268 a1 ([] : List (S61)) 0)) = some (r1, r2) := h
  clear h
  replace H := Option.bind_eq_some_iff.mp H
  obtain ⟨t268, A30, H⟩ := H
  replace H : (tenterhookref17_Drop.l0 k t268 a1 ([] : List (S61)) 0) = some (r1, r2) := H
  have A3 := Aside0.mk A30
  clear A30
  have H' := Aside0.mk H
  clear H
  go_enter Try.func17, Try.ntmps17
  go_wp2_with (first | ((with_reducible refine gate_callee (f := 31) rfl ?_); refine goesL_ (some 9) rfl rfl Try.func31 (by kernel_rfl) rfl #[.slice A0 l0.length c0] rfl (by (try simp only [List.map_toArray, List.map_cons, List.map_nil]); first | done | rfl | (simp only [List.length_drop, List.length_take]; rfl)) ?_; (with_reducible refine (tenterhookref17_sane.calls k (fun k_ => k_ < w.heap.size) _ _ l0 t268 _ ?side1 A3.out).mono ?_); (case side1 => exact Kd.V_mk HC0.out (Kd.F_below (Kd.C_F k61_heap HR0.out) (by repeat (first | (with_reducible first | exact HB.out | apply below_alloc | apply pw_below_drewN | apply below_drew1) | exact HB.out)))); rintro e w4 ⟨v269, rfl, ho0, hb⟩; refine ⟨_, rfl, ?_⟩; have n0_ := Aside0.mk (Kd.V_lower (Kd.V_mono (ok' := fun k_ => True) ho0 (fun k_ hk_ => trivial)) (below_size (by repeat (first | (with_reducible first | exact HB.out | apply below_alloc | apply pw_below_drewN | apply below_drew1) | exact HB.out)))); have n1_ := Aside0.mk (below_step (by repeat (first | (with_reducible first | exact HB.out | apply below_alloc | apply pw_below_drewN | apply below_drew1) | exact HB.out)) hb); clear HB; have HO270 := n0_; have HB := n1_; clear n0_ n1_; (try clear hb); (try clear hb2); (try clear hk); (try clear hi); (try clear ho0)))
  go_loopg [6, 7] k (fun kq v6 v7 w' => ∃ (x6_1 : List (S61)) (x7_1 : Int), v7 = .int .i64 x7_1 ∧ Aside0 (tenterhookref17_Drop.l0 kq t268 a1 x6_1 x7_1 = some (r1, r2)) ∧ Aside0 (kq ≤ k) ∧ Aside0 (Kd.V k61 61 w' w.heap.size (fun k_ => some k_ ≠ (v6 : Value).ownBlock) v269 t268) ∧ Aside0 (Kd.R k61 61 w' w.heap.size (fun _ => True) v6 x6_1) ∧ Aside0 (Below w.heap.size w w'))
  case atStart => exact ⟨(([] : List (S61))), (0), (by first | rfl | (simp; done) | (simp [*]; done)), H', ⟨Nat.le_refl _⟩, ⟨by (with_reducible repeat (first | apply Kd.V_alloc | apply Kd.V_drewN | apply Kd.V_drew)); exact Kd.V_mono HO270.out (fun _ hk => (by simp [Value.ownBlock]))⟩, ⟨by first | exact Kd.R_nil _ _ _ _ _ | exact Kd.N_nil _ _ _ _ _ | exact Kd.V_nil _ _ _ _ _ | exact Kd.Q_nil _ _ _ _ _ | exact Kd.S_nil _ _ _ _ _⟩, ⟨by repeat (first | (with_reducible first | exact HB.out | apply below_alloc | apply pw_below_drewN | apply below_drew1) | exact HB.out)⟩⟩
  case round =>
    clear H'
    try clear c1
    try clear p2
    try clear c3
    obtain ⟨x6_1, x7_1, rfl, HA, HK1, HO_0, HO_6, HB⟩ := hrel
    cases gk with
    | zero => exact absurd HA.out (by simp [tenterhookref17_Drop.l0])
    | succ k1 =>
      have H := HA.out
      clear HA
      simp only [tenterhookref17_Drop.l0] at H
      by_cases c5 : x7_1 < (t268.length : Int)
      · rw [if_pos c5] at H
        have c5b0 : decide (x7_1 < (t268.length : Int)) = true := decide_eq_true c5
        clear c5
        by_cases c6 : 0 ≤ x7_1
        · rw [if_pos c6] at H
          have c6b0 : decide (0 ≤ x7_1) = true := decide_eq_true c6
          clear c6
          by_cases c7 : ((rd_T61 t268 x7_1).f0) = a1
          · rw [if_pos c7] at H
            have c7b0 : (((rd_T61 t268 x7_1).f0) == a1) = true := beq_iff_eq.mpr c7
            have c7b1 : (((rd_T61 t268 x7_1).f0) != a1) = false := bne_eq_false_iff_eq.mpr c7
            clear c7
            have H' := Aside0.mk H
            clear H
            obtain ⟨Ao8, co8, eo8⟩ := Kd.V_slice HO_0.out
            subst eo8
            have p271 : 0 ≤ (x7_1 : Int) := of_decide_eq_true (by first | (with_reducible assumption) | assumption)
            have q271 : x7_1 < (t268.length : Int) := of_decide_eq_true (by first | (with_reducible assumption) | assumption)
            obtain ⟨ad271, e271, hx271_0, hx271_1⟩ := at_T61 (Kd.V_reads' HO_0.out).2.2 x7_1 p271 q271
            cases e271
            replace p271 := eq_true p271
            replace q271 := eq_true q271
            go_wp2
            go_roundg k1
            case measure => have := HK1.out; omega
            case rel => exact ⟨(x6_1), (wrap64 (x7_1 + 1)), (by first | rfl | (simp; done) | (simp [*]; done)), H', ⟨by have := HK1.out; omega⟩, ⟨by (with_reducible repeat (first | apply Kd.V_alloc | apply Kd.V_drewN | apply Kd.V_drew)); exact HO_0.out⟩, ⟨by (with_reducible repeat (first | apply Kd.R_alloc | apply Kd.R_drewN | apply Kd.R_drew)); exact HO_6.out⟩, ⟨by repeat (first | (with_reducible first | exact HB.out | apply below_alloc | apply pw_below_drewN | apply below_drew1) | exact HB.out)⟩⟩
          · rw [if_neg c7] at H
            have c7b0 : (((rd_T61 t268 x7_1).f0) == a1) = false := beq_eq_false_iff_ne.mpr c7
            have c7b1 : (((rd_T61 t268 x7_1).f0) != a1) = true := bne_iff_ne.mpr c7
            by_cases c9 : x6_1.length < 8796093022208
            · rw [if_pos c9] at H
              have LMc9 := Aside0.mk c9
              clear c9
              obtain ⟨y273, hy273⟩ : ∃ y_ : List (S61), y_ = (x6_1 ++ [(⟨(rd_T61 t268 x7_1).f0, (rd_T61 t268 x7_1).f1⟩ : S61)]) := ⟨_, rfl⟩
              replace H : (tenterhookref17_Drop.l0 k1 t268 a1 y273 (wrap64 (x7_1 + 1))) = some (r1, r2) := by first | (rw [hy273]; with_reducible exact H) | (have H2_ := (Option.bind_some _ _).symm.trans H; rw [hy273]; with_reducible exact H2_) | (have H2_ := (Option.bind_some _ _).symm.trans H; with_reducible exact H2_) | with_reducible exact H | (rw [hy273]; exact H) | exact H
              have Ny273 := Aside0.mk hy273
              clear hy273
              have H' := Aside0.mk H
              clear H
              obtain ⟨Ao10, co10, eo10⟩ := Kd.V_slice HO_0.out
              subst eo10
              have p271 : 0 ≤ (x7_1 : Int) := of_decide_eq_true (by first | (with_reducible assumption) | assumption)
              have q271 : x7_1 < (t268.length : Int) := of_decide_eq_true (by first | (with_reducible assumption) | assumption)
              obtain ⟨ad271, e271, hx271_0, hx271_1⟩ := at_T61 (Kd.V_reads' HO_0.out).2.2 x7_1 p271 q271
              cases e271
              replace p271 := eq_true p271
              replace q271 := eq_true q271
              have p272 : 0 ≤ (x7_1 : Int) := of_decide_eq_true (by first | (with_reducible assumption) | assumption)
              have q272 : x7_1 < (t268.length : Int) := of_decide_eq_true (by first | (with_reducible assumption) | assumption)
              obtain ⟨ad272, e272, hx272_0, hx272_1⟩ := at_T61 (Kd.V_reads' HO_0.out).2.2 x7_1 p272 q272
              obtain rfl : ad271 = ad272 := (by injection e272)
              replace p272 := eq_true p272
              replace q272 := eq_true q272
              go_wp2_with (first | ((with_reducible refine gate_builtin (b := .append) (xs := #[.tmp 23, .tmp 28]) rfl ?_); at_builtin; refine Kd.R_append k61 (w0 := w) w.heap.size rfl (.tmp 23) (.tmp 28) 31 61 (.agg #[(.int .i64 0), (.int .i64 0)]) 16 rfl Try.underlying31 info61 rfl (by decide) (by omega) u6 x6_1 (⟨(rd_T61 t268 x7_1).f0, (rd_T61 t268 x7_1).f1⟩ : S61) [.int .i64 ((rd_T61 t268 x7_1).f0), .int .i64 ((rd_T61 t268 x7_1).f1)] (fun _ => True) (fun _ => False) rfl rfl ?aP (fun _ hk => hk.elim) ?aF ?aO ?aB ?aS ?aL ?_; (case aP => exact k61_mkM _ _ _ (⟨(rd_T61 t268 x7_1).f0, (rd_T61 t268 x7_1).f1⟩ : S61)); (case aB => exact (by repeat (first | (with_reducible first | exact HB.out | apply below_alloc | apply pw_below_drewN | apply below_drew1) | exact HB.out))); (case aF => exact (fun _ _ => trivial)); (case aO => exact (by (with_reducible repeat (first | apply Kd.R_alloc | apply Kd.R_drewN | apply Kd.R_drew)); exact HO_6.out)); (case aS => exact (below_size (by repeat (first | (with_reducible first | exact HB.out | apply below_alloc | apply pw_below_drewN | apply below_drew1) | exact HB.out)))); (case aL => have := LMc9.out; omega); intro v274 w11 ho hb hg hat; rw [← Ny273.out] at ho; have n0_ := Aside0.mk (Kd.V_afterv (ok := (fun _ => True)) (by (with_reducible repeat (first | apply Kd.V_alloc | apply Kd.V_drewN | apply Kd.V_drew)); exact Kd.V_mono HO_0.out (fun _ hk => ⟨trivial, hk⟩)) hg hat); have n1_ := Aside0.mk (hb); have n2_ := Aside0.mk (ho); clear HO_0; clear HB; clear HO_6; have HO_0 := n0_; have HB := n1_; have HO275 := n2_; clear n0_ n1_ n2_; clear ho hb hg hat))
              go_roundg k1
              case measure => have := HK1.out; omega
              case rel => exact ⟨(y273), (wrap64 (x7_1 + 1)), (by first | rfl | (simp; done) | (simp [*]; done)), H', ⟨by have := HK1.out; omega⟩, ⟨by (with_reducible repeat (first | apply Kd.V_alloc | apply Kd.V_drewN | apply Kd.V_drew)); exact Kd.V_mono HO_0.out (fun _ hk => hk.2)⟩, ⟨by (with_reducible repeat (first | apply Kd.R_alloc | apply Kd.R_drewN | apply Kd.R_drew)); exact HO275.out⟩, ⟨by repeat (first | (with_reducible first | exact HB.out | apply below_alloc | apply pw_below_drewN | apply below_drew1) | exact HB.out)⟩⟩
            · rw [if_neg c9] at H
              exact absurd H (by simp)
        · rw [if_neg c6] at H
          exact absurd H (by simp)
      · rw [if_neg c5] at H
        have c5b0 : decide (x7_1 < (t268.length : Int)) = false := decide_eq_false c5
        clear c5
        simp only [Option.some.injEq, Prod.mk.injEq] at H
        obtain ⟨rfl, rfl⟩ := H
        obtain ⟨Ao12, co12, eo12⟩ := Kd.V_slice HO_0.out
        subst eo12
        obtain ⟨Ao13, co13, eo13⟩ := Kd.R_slice HO_6.out
        subst eo13
        go_wp2
        go_ret2
        exact ⟨_, by first | rfl | (simp [errW_none, errW_some] <;> rfl) | (simp [*, errW_none, errW_some] <;> rfl), by (with_reducible repeat (first | apply Kd.R_alloc | apply Kd.R_drewN | apply Kd.R_drew)); exact HO_6.out, by repeat (first | (with_reducible first | exact HB.out | apply below_alloc | apply pw_below_drewN | apply below_drew1) | exact HB.out)⟩

/-! ### tenterhookref17_Next: function 19 -/
def tenterhookref17_Next.f (k : Nat) (l0 : List (S61)) : Option (Int × Bool) := (tenterhookref17_sane.f k l0).bind fun t276 => (if (t276.length : Int) = 0 then (some (0, false)) else (if 0 < (t276.length : Int) then (some ((rd_T61 t276 0).f1, true)) else (none)))
theorem tenterhookref17_Next.mono : ∀ a0 k, LeO (tenterhookref17_Next.f k a0) (tenterhookref17_Next.f (k + 1) a0) := by
  intro a0 k
  unfold tenterhookref17_Next.f
  repeat' first
      | (with_reducible exact tenterhookref17_sane.mono _ _)
      | (with_reducible exact LeO.refl _)
      | (with_reducible exact LeO.none _)
      | (with_reducible refine LeO.ite ?_ ?_)
      | (with_reducible refine LeO.bind ?_ (fun _ => ?_))
      | exact tenterhookref17_sane.mono _ _
      | exact LeO.none _
      | refine LeO.ite ?_ ?_
      | refine LeO.bind ?_ (fun _ => ?_)
set_option maxHeartbeats 8000000 in
set_option maxRecDepth 100000 in
theorem tenterhookref17_Next.calls (k : Nat) (A0 : Option Addr) (c0 : Nat) (l0 : List (S61)) (r1 : Int) (r2 : Bool) (w : World) (hr0 : Kd.C k61 w A0 l0.length l0) (hc0 : l0.length ≤ c0) (h : tenterhookref17_Next.f k l0 = some (r1, r2)) :
    Calls Try.prog 19 #[.slice A0 l0.length c0] w fun e w' => e = .returned (.tuple #[.int .i64 r1, .bool r2]) ∧ Below w.heap.size w w' := by
  have HR0 := Aside0.mk hr0
  have HC0 := Aside0.mk hc0
  clear hr0 hc0
  have HB := Aside0.mk (Below.refl w.heap.size w)
  have H : ((tenterhookref17_sane.f k l0).bind fun t276 => (if (t276.length : Int) = 0 then (some (0, false)) else (if 0 < (t276.length : Int) then (some ((rd_T61 t276 0).f1, true)) else (none)))) = some (r1, r2) := h
  clear h
  replace H := Option.bind_eq_some_iff.mp H
  obtain ⟨t276, A20, H⟩ := H
  replace H : (if (t276.length : Int) = 0 then (some (0, false)) else (if 0 < (t276.length : Int) then (some ((rd_T61 t276 0).f1, true)) else (none))) = some (r1, r2) := H
  have A2 := Aside0.mk A20
  clear A20
  by_cases c3 : (t276.length : Int) = 0
  · rw [if_pos c3] at H
    have c3b0 : ((t276.length : Int) == 0) = true := beq_iff_eq.mpr c3
    have c3b1 : ((t276.length : Int) != 0) = false := bne_eq_false_iff_eq.mpr c3
    clear c3
    simp only [Option.some.injEq, Prod.mk.injEq] at H
    obtain ⟨rfl, rfl⟩ := H
    go_enter Try.func19, Try.ntmps19
    go_wp2_with (first | ((with_reducible refine gate_callee (f := 31) rfl ?_); refine goesL_ (some 5) rfl rfl Try.func31 (by kernel_rfl) rfl #[.slice A0 l0.length c0] rfl (by (try simp only [List.map_toArray, List.map_cons, List.map_nil]); first | done | rfl | (simp only [List.length_drop, List.length_take]; rfl)) ?_; (with_reducible refine (tenterhookref17_sane.calls k (fun k_ => k_ < w.heap.size) _ _ l0 t276 _ ?side1 A2.out).mono ?_); (case side1 => exact Kd.V_mk HC0.out (Kd.F_below (Kd.C_F k61_heap HR0.out) (by repeat (first | (with_reducible first | exact HB.out | apply below_alloc | apply pw_below_drewN | apply below_drew1) | exact HB.out)))); rintro e w4 ⟨v277, rfl, ho0, hb⟩; refine ⟨_, rfl, ?_⟩; have n0_ := Aside0.mk (Kd.V_lower (Kd.V_mono (ok' := fun k_ => True) ho0 (fun k_ hk_ => trivial)) (below_size (by repeat (first | (with_reducible first | exact HB.out | apply below_alloc | apply pw_below_drewN | apply below_drew1) | exact HB.out)))); have n1_ := Aside0.mk (below_step (by repeat (first | (with_reducible first | exact HB.out | apply below_alloc | apply pw_below_drewN | apply below_drew1) | exact HB.out)) hb); clear HB; have HO278 := n0_; have HB := n1_; clear n0_ n1_; (try clear hb); (try clear hb2); (try clear hk); (try clear hi); (try clear ho0); obtain ⟨Ao5, co5, eo5⟩ := Kd.V_slice HO278.out; subst eo5))
    go_ret2
    exact ⟨by first | rfl | (simp [errW_none, errW_some] <;> rfl) | (simp [*, errW_none, errW_some] <;> rfl), by repeat (first | (with_reducible first | exact HB.out | apply below_alloc | apply pw_below_drewN | apply below_drew1) | exact HB.out)⟩
  · rw [if_neg c3] at H
    have c3b0 : ((t276.length : Int) == 0) = false := beq_eq_false_iff_ne.mpr c3
    have c3b1 : ((t276.length : Int) != 0) = true := bne_iff_ne.mpr c3
    have c3b2 : ¬ (t276 = []) := fun h_ => c3 (by rw [h_]; rfl)
    by_cases c6 : 0 < (t276.length : Int)
    · rw [if_pos c6] at H
      have c6b0 : decide (0 < (t276.length : Int)) = true := decide_eq_true c6
      have c6b1 : decide (0 < t276.length) = true := decide_eq_true (by omega)
      clear c6
      simp only [Option.some.injEq, Prod.mk.injEq] at H
      obtain ⟨rfl, rfl⟩ := H
      go_enter Try.func19, Try.ntmps19
      go_wp2_with (first | ((with_reducible refine gate_callee (f := 31) rfl ?_); refine goesL_ (some 5) rfl rfl Try.func31 (by kernel_rfl) rfl #[.slice A0 l0.length c0] rfl (by (try simp only [List.map_toArray, List.map_cons, List.map_nil]); first | done | rfl | (simp only [List.length_drop, List.length_take]; rfl)) ?_; (with_reducible refine (tenterhookref17_sane.calls k (fun k_ => k_ < w.heap.size) _ _ l0 t276 _ ?side1 A2.out).mono ?_); (case side1 => exact Kd.V_mk HC0.out (Kd.F_below (Kd.C_F k61_heap HR0.out) (by repeat (first | (with_reducible first | exact HB.out | apply below_alloc | apply pw_below_drewN | apply below_drew1) | exact HB.out)))); rintro e w7 ⟨v277, rfl, ho0, hb⟩; refine ⟨_, rfl, ?_⟩; have n0_ := Aside0.mk (Kd.V_lower (Kd.V_mono (ok' := fun k_ => True) ho0 (fun k_ hk_ => trivial)) (below_size (by repeat (first | (with_reducible first | exact HB.out | apply below_alloc | apply pw_below_drewN | apply below_drew1) | exact HB.out)))); have n1_ := Aside0.mk (below_step (by repeat (first | (with_reducible first | exact HB.out | apply below_alloc | apply pw_below_drewN | apply below_drew1) | exact HB.out)) hb); clear HB; have HO278 := n0_; have HB := n1_; clear n0_ n1_; (try clear hb); (try clear hb2); (try clear hk); (try clear hi); (try clear ho0); obtain ⟨Ao8, co8, eo8⟩ := Kd.V_slice HO278.out; subst eo8; have p279 : 0 ≤ (0 : Int) := (by omega); have q279 : 0 < (t276.length : Int) := of_decide_eq_true (by first | (with_reducible assumption) | assumption); obtain ⟨ad279, e279, hx279_0, hx279_1⟩ := at_T61 (Kd.V_reads' HO278.out).2.2 0 p279 q279; cases e279; have qi279 : (0 < t276.length) = True := eq_true (by omega); (try rw [show ((0 : Int)).toNat = 0 from rfl] at hx279_0); (try rw [show 0 * 2 = 0 from rfl] at hx279_0); (try rw [Addr.add_zero'] at hx279_0); (try rw [show ((0 : Int)).toNat = 0 from rfl] at hx279_1); (try rw [show 0 * 2 = 0 from rfl] at hx279_1); (try rw [Addr.add_zero'] at hx279_1); replace p279 := eq_true p279; replace q279 := eq_true q279))
      go_ret2
      exact ⟨by first | rfl | (simp [errW_none, errW_some] <;> rfl) | (simp [*, errW_none, errW_some] <;> rfl), by repeat (first | (with_reducible first | exact HB.out | apply below_alloc | apply pw_below_drewN | apply below_drew1) | exact HB.out)⟩
    · rw [if_neg c6] at H
      exact absurd H (by simp)
/-! ### tenterhookref04_Same: function 20 -/
def tenterhookref04_Same.l0 : Nat → List Int → List Int → Int → Option (Bool)
  | 0, _, _, _ => none
  | k + 1, x0, x1, x5 => if x5 < (x0.length : Int) then (if 0 ≤ x5 then (if x5 < (x1.length : Int) then (if (rd x0 x5) = (rd x1 x5) then (tenterhookref04_Same.l0 k x0 x1 (wrap64 (x5 + 1))) else (some false)) else (none)) else (none)) else (some true)
def tenterhookref04_Same.f (k : Nat) (l0 : List Int) (l1 : List Int) : Option (Bool) := if (l0.length : Int) = (l1.length : Int) then (tenterhookref04_Same.l0 k l0 l1 0) else (some false)
theorem tenterhookref04_Same.mono_l : ∀ k, (∀ y0 y1 y2, LeO (tenterhookref04_Same.l0 k y0 y1 y2) (tenterhookref04_Same.l0 (k + 1) y0 y1 y2))
  | 0 => fun _ _ _ r h => by simp [tenterhookref04_Same.l0] at h
  | k + 1 => by
    have ih0 := tenterhookref04_Same.mono_l k
    · intro y0 y1 y2
      unfold tenterhookref04_Same.l0
      repeat' first
      | (with_reducible exact ih0 _ _ _)
      | (with_reducible exact LeO.refl _)
      | (with_reducible exact LeO.none _)
      | (with_reducible refine LeO.ite ?_ ?_)
      | (with_reducible refine LeO.bind ?_ (fun _ => ?_))
      | exact ih0 _ _ _
      | exact LeO.none _
      | refine LeO.ite ?_ ?_
      | refine LeO.bind ?_ (fun _ => ?_)
theorem tenterhookref04_Same.mono : ∀ a0 a1 k, LeO (tenterhookref04_Same.f k a0 a1) (tenterhookref04_Same.f (k + 1) a0 a1) := by
  intro a0 a1 k
  have ih0 := tenterhookref04_Same.mono_l k
  unfold tenterhookref04_Same.f
  repeat' first
      | (with_reducible exact ih0 _ _ _)
      | (with_reducible exact LeO.refl _)
      | (with_reducible exact LeO.none _)
      | (with_reducible refine LeO.ite ?_ ?_)
      | (with_reducible refine LeO.bind ?_ (fun _ => ?_))
      | exact ih0 _ _ _
      | exact LeO.none _
      | refine LeO.ite ?_ ?_
      | refine LeO.bind ?_ (fun _ => ?_)
set_option maxHeartbeats 8000000 in
set_option maxRecDepth 100000 in
theorem tenterhookref04_Same.calls (k : Nat) (A0 : Option Addr) (c0 : Nat) (l0 : List Int) (A1 : Option Addr) (c1 : Nat) (l1 : List Int) (r : Bool) (w : World) (hr0 : Kd.C (Kd.int .i64) w A0 l0.length l0) (hc0 : l0.length ≤ c0) (hr1 : Kd.C (Kd.int .i64) w A1 l1.length l1) (hc1 : l1.length ≤ c1) (h : tenterhookref04_Same.f k l0 l1 = some r) :
    Calls Try.prog 20 #[.slice A0 l0.length c0, .slice A1 l1.length c1] w fun e w' => e = .returned (.bool r) ∧ Drawn0 w w' := by
  have HR0 := Aside0.mk hr0
  have HC0 := Aside0.mk hc0
  clear hr0 hc0
  have HR1 := Aside0.mk hr1
  have HC1 := Aside0.mk hc1
  clear hr1 hc1
  have H : (if (l0.length : Int) = (l1.length : Int) then (tenterhookref04_Same.l0 k l0 l1 0) else (some false)) = some r := h
  clear h
  by_cases c3 : (l0.length : Int) = (l1.length : Int)
  · rw [if_pos c3] at H
    have c3b0 : ((l0.length : Int) == (l1.length : Int)) = true := beq_iff_eq.mpr c3
    have c3b1 : ((l0.length : Int) != (l1.length : Int)) = false := bne_eq_false_iff_eq.mpr c3
    have c3b2 : (l0.length == l1.length) = true := by first | simpa using c3 | (simp at c3 ⊢; omega)
    clear c3
    have H' := Aside0.mk H
    clear H
    go_enter Try.func20, Try.ntmps20
    go_wp2
    repeat (go_quiet (fail); try go_wp2)
    go_loopg [5] k (fun kq v5 w' => ∃ (x5_1 : Int), v5 = .int .i64 x5_1 ∧ Aside0 (tenterhookref04_Same.l0 kq l0 l1 x5_1 = some r) ∧ Aside0 (kq ≤ k) ∧ Drawn0 w w')
    case atStart => exact ⟨(0), (by first | rfl | (simp; done) | (simp [*]; done)), H', ⟨Nat.le_refl _⟩, by repeat (first | exact Drawn0.refl _ | apply Drawn0.step)⟩
    case round =>
      clear H'
      try clear c1
      try clear c2
      try clear p2
      try clear c3
      try clear c3b0
      try clear c3b1
      try clear c3b2
      obtain ⟨x5_1, rfl, HA, HK1, ⟨m1, rfl⟩⟩ := hrel
      cases gk with
      | zero => exact absurd HA.out (by simp [tenterhookref04_Same.l0])
      | succ k1 =>
        have H := HA.out
        clear HA
        simp only [tenterhookref04_Same.l0] at H
        by_cases c4 : x5_1 < (l0.length : Int)
        · rw [if_pos c4] at H
          have c4b0 : decide (x5_1 < (l0.length : Int)) = true := decide_eq_true c4
          clear c4
          by_cases c5 : 0 ≤ x5_1
          · rw [if_pos c5] at H
            have c5b0 : decide (0 ≤ x5_1) = true := decide_eq_true c5
            clear c5
            by_cases c6 : x5_1 < (l1.length : Int)
            · rw [if_pos c6] at H
              have c6b0 : decide (x5_1 < (l1.length : Int)) = true := decide_eq_true c6
              clear c6
              by_cases c7 : (rd l0 x5_1) = (rd l1 x5_1)
              · rw [if_pos c7] at H
                have c7b0 : ((rd l0 x5_1) == (rd l1 x5_1)) = true := beq_iff_eq.mpr c7
                have c7b1 : ((rd l0 x5_1) != (rd l1 x5_1)) = false := bne_eq_false_iff_eq.mpr c7
                clear c7
                have H' := Aside0.mk H
                clear H
                have p280 : 0 ≤ (x5_1 : Int) := of_decide_eq_true (by first | (with_reducible assumption) | assumption)
                have q280 : x5_1 < (l0.length : Int) := of_decide_eq_true (by first | (with_reducible assumption) | assumption)
                obtain ⟨ad280, e280, hx280_0⟩ := Kd.at_int HR0.out x5_1 p280 q280
                cases e280
                replace p280 := eq_true p280
                replace q280 := eq_true q280
                have p281 : 0 ≤ (x5_1 : Int) := of_decide_eq_true (by first | (with_reducible assumption) | assumption)
                have q281 : x5_1 < (l1.length : Int) := of_decide_eq_true (by first | (with_reducible assumption) | assumption)
                obtain ⟨ad281, e281, hx281_0⟩ := Kd.at_int HR1.out x5_1 p281 q281
                cases e281
                replace p281 := eq_true p281
                replace q281 := eq_true q281
                go_wp2
                repeat (go_quiet (fail); try go_wp2)
                go_roundg k1
                case measure => have := HK1.out; omega
                case rel => exact ⟨(wrap64 (x5_1 + 1)), (by first | rfl | (simp; done) | (simp [*]; done)), H', ⟨by have := HK1.out; omega⟩, by repeat (first | exact Drawn0.refl _ | apply Drawn0.step)⟩
              · rw [if_neg c7] at H
                have c7b0 : ((rd l0 x5_1) == (rd l1 x5_1)) = false := beq_eq_false_iff_ne.mpr c7
                have c7b1 : ((rd l0 x5_1) != (rd l1 x5_1)) = true := bne_iff_ne.mpr c7
                obtain rfl := Option.some.inj H
                have p280 : 0 ≤ (x5_1 : Int) := of_decide_eq_true (by first | (with_reducible assumption) | assumption)
                have q280 : x5_1 < (l0.length : Int) := of_decide_eq_true (by first | (with_reducible assumption) | assumption)
                obtain ⟨ad280, e280, hx280_0⟩ := Kd.at_int HR0.out x5_1 p280 q280
                cases e280
                replace p280 := eq_true p280
                replace q280 := eq_true q280
                have p281 : 0 ≤ (x5_1 : Int) := of_decide_eq_true (by first | (with_reducible assumption) | assumption)
                have q281 : x5_1 < (l1.length : Int) := of_decide_eq_true (by first | (with_reducible assumption) | assumption)
                obtain ⟨ad281, e281, hx281_0⟩ := Kd.at_int HR1.out x5_1 p281 q281
                cases e281
                replace p281 := eq_true p281
                replace q281 := eq_true q281
                go_wp2
                repeat (go_quiet (fail); try go_wp2)
                go_ret
                exact ⟨by first | rfl | (simp; done) | (simp [*]; done), by repeat (first | exact Drawn0.refl _ | apply Drawn0.step)⟩
            · rw [if_neg c6] at H
              exact absurd H (by simp)
          · rw [if_neg c5] at H
            exact absurd H (by simp)
        · rw [if_neg c4] at H
          have c4b0 : decide (x5_1 < (l0.length : Int)) = false := decide_eq_false c4
          clear c4
          obtain rfl := Option.some.inj H
          go_wp2
          repeat (go_quiet (fail); try go_wp2)
          go_ret
          exact ⟨by first | rfl | (simp; done) | (simp [*]; done), by repeat (first | exact Drawn0.refl _ | apply Drawn0.step)⟩
  · rw [if_neg c3] at H
    have c3b0 : ((l0.length : Int) == (l1.length : Int)) = false := beq_eq_false_iff_ne.mpr c3
    have c3b1 : ((l0.length : Int) != (l1.length : Int)) = true := bne_iff_ne.mpr c3
    have c3b2 : (l0.length == l1.length) = false := by first | simpa using c3 | (simp at c3 ⊢; omega)
    obtain rfl := Option.some.inj H
    go_enter Try.func20, Try.ntmps20
    go_wp2
    repeat (go_quiet (fail); try go_wp2)
    go_ret
    exact ⟨by first | rfl | (simp; done) | (simp [*]; done), by repeat (first | exact Drawn0.refl _ | apply Drawn0.step)⟩


end Go.Proofs.Ytinngbfkefaiiaa.P
