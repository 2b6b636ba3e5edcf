-- Written by a program of this session (xprint.py, asm.py).
import Derived.Test.YtinngbfkefaiiaaP0
import Derived.Test.YtinngbfkefaiiaaP1
import Derived.Test.YtinngbfkefaiiaaX
import Derived.Test.YtinngbfkefaiiaaS
import Derived.Test.YtinngbfkefaiiaaR
namespace Go.Proofs.Ytinngbfkefaiiaa.P
open Go.Proofs.YtinngbfkefaiiaaX Go.RowKit Go.Proofs.YtinngbfkefaiiaaW.PrintWords Go.Proofs.YtinngbfkefaiiaaW.PrintLast Go.Proofs.YtinngbfkefaiiaaW.PrintMore
attribute [local go_sem] max2_int min2_int max_two min_two max_three min_three max_four min_four   -- for this text's walks alone

set_option linter.unusedVariables false
set_option linter.unusedSimpArgs false

/-! ### timer_Nap_35: function 35 -/
def timer_Nap_35.l0 (p : Int → Int → Option Bool) : Nat → List (S49) → Int → Int → Option (Int)
  | 0, _, _, _ => none
  | k + 1, x0, x7, x8 => if x8 < x7 then (if 0 ≤ x8 then (if x8 < (x0.length : Int) then ((p ((rd_T49 x0 x8).f0) ((rd_T49 x0 x8).f1)).bind fun t115 => (if t115 = true then (some x8) else (timer_Nap_35.l0 p k x0 x7 (wrap64 (x8 + 1))))) else (none)) else (none)) else (some (-1))
def timer_Nap_35.f (p : Int → Int → Option Bool) (k : Nat) (l0 : List (S49)) : Option (Int) := timer_Nap_35.l0 p k l0 (l0.length : Int) 0
theorem timer_Nap_35.mono_l (p : Int → Int → Option Bool) : ∀ k, (∀ y0 y1 y2, LeO (timer_Nap_35.l0 p k y0 y1 y2) (timer_Nap_35.l0 p (k + 1) y0 y1 y2))
  | 0 => fun _ _ _ r h => by simp [timer_Nap_35.l0] at h
  | k + 1 => by
    have ih0 := timer_Nap_35.mono_l p k
    · intro y0 y1 y2
      unfold timer_Nap_35.l0
      repeat' first
      | (with_reducible exact ih0 _ _ _)
      | (with_reducible exact LeO.refl _)
      | (with_reducible exact LeO.none _)
      | (with_reducible refine LeO.ite ?_ ?_)
      | (with_reducible refine LeO.bind ?_ (fun _ => ?_))
      | exact ih0 _ _ _
      | exact LeO.none _
      | refine LeO.ite ?_ ?_
      | refine LeO.bind ?_ (fun _ => ?_)
theorem timer_Nap_35.mono (p : Int → Int → Option Bool) : ∀ a0 k, LeO (timer_Nap_35.f p k a0) (timer_Nap_35.f p (k + 1) a0) := by
  intro a0 k
  have ih0 := timer_Nap_35.mono_l p k
  unfold timer_Nap_35.f
  repeat' first
      | (with_reducible exact ih0 _ _ _)
      | (with_reducible exact LeO.refl _)
      | (with_reducible exact LeO.none _)
      | (with_reducible refine LeO.ite ?_ ?_)
      | (with_reducible refine LeO.bind ?_ (fun _ => ?_))
      | exact ih0 _ _ _
      | exact LeO.none _
      | refine LeO.ite ?_ ?_
      | refine LeO.bind ?_ (fun _ => ?_)
set_option maxHeartbeats 8000000 in
set_option maxRecDepth 100000 in
theorem timer_Nap_35.calls (g : FuncId) (lb : Array Value) (heg : EntersV Try.prog g) (p : Int → Int → Option Bool) (k : Nat) (A0 : Option Addr) (c0 : Nat) (l0 : List (S49)) (r : Int) (w : World) (hp : ∀ c d r W, p c d = some r → Below w.heap.size w W → Calls Try.prog g (#[.agg #[.int .i64 c, .int .i64 d]] ++ lb) W fun e W' => e = .returned (.bool r) ∧ Below W.heap.size W W') (hr0 : Kd.C k49 w A0 l0.length l0) (hc0 : l0.length ≤ c0) (h : timer_Nap_35.f p k l0 = some r) :
    Calls Try.prog 35 #[.slice A0 l0.length c0, .func (.func g) #[] lb] w fun e w' => e = .returned (.int .i64 r) ∧ Below w.heap.size w w' := by
  have hu49 := Try.underlying49
  have HR0 := Aside0.mk hr0
  have HC0 := Aside0.mk hc0
  clear hr0 hc0
  have HB := Aside0.mk (Below.refl w.heap.size w)
  have H : (timer_Nap_35.l0 p k l0 (l0.length : Int) 0) = some r := h
  clear h
  have H' := Aside0.mk H
  clear H
  go_enter Try.func35, Try.ntmps35
  go_wp2
  go_loopg [8] k (fun kq v8 w' => ∃ (x8_1 : Int), v8 = .int .i64 x8_1 ∧ Aside0 (timer_Nap_35.l0 p kq l0 (l0.length : Int) x8_1 = some r) ∧ Aside0 (kq ≤ k) ∧ Aside0 (Below w.heap.size w w'))
  case atStart => exact ⟨(0), (by first | rfl | (simp; done) | (simp [*]; done)), H', ⟨Nat.le_refl _⟩, ⟨by repeat (first | (with_reducible first | exact HB.out | apply below_alloc | apply pw_below_drewN | apply below_drew1) | exact HB.out)⟩⟩
  case round =>
    clear H'
    try clear p2
    obtain ⟨x8_1, rfl, HA, HK1, HB⟩ := hrel
    cases gk with
    | zero => exact absurd HA.out (by simp [timer_Nap_35.l0])
    | succ k1 =>
      have H := HA.out
      clear HA
      simp only [timer_Nap_35.l0] at H
      by_cases c3 : x8_1 < (l0.length : Int)
      · rw [if_pos c3] at H
        have c3b0 : decide (x8_1 < (l0.length : Int)) = true := decide_eq_true c3
        clear c3
        by_cases c4 : 0 ≤ x8_1
        · rw [if_pos c4] at H
          have c4b0 : decide (0 ≤ x8_1) = true := decide_eq_true c4
          clear c4
          by_cases c5 : x8_1 < (l0.length : Int)
          · rw [if_pos c5] at H
            have c5b0 : decide (x8_1 < (l0.length : Int)) = true := decide_eq_true c5
            clear c5
            replace H := Option.bind_eq_some_iff.mp H
            obtain ⟨t115, A60, H⟩ := H
            replace H : (if t115 = true then (some x8_1) else (timer_Nap_35.l0 p k1 l0 (l0.length : Int) (wrap64 (x8_1 + 1)))) = some r := H
            have A6 := Aside0.mk A60
            clear A60
            by_cases c7 : t115 = true
            · subst c7
              have H1 : (some x8_1) = some r := by rw [if_pos rfl] at H; exact H
              clear H
              have H := H1
              clear H1
              obtain rfl := Option.some.inj H
              have p114 : 0 ≤ (x8_1 : Int) := of_decide_eq_true (by first | (with_reducible assumption) | assumption)
              have q114 : x8_1 < (l0.length : Int) := of_decide_eq_true (by first | (with_reducible assumption) | assumption)
              obtain ⟨ad114, e114, hx114_0, hx114_1⟩ := at_T49 HR0.out x8_1 p114 q114
              cases e114
              replace hx114_0 := (HB.out.cell (World.block_lt_of_cell? w _ hx114_0)).trans hx114_0
              replace hx114_1 := (HB.out.cell (World.block_lt_of_cell? w _ hx114_1)).trans hx114_1
              replace p114 := eq_true p114
              replace q114 := eq_true q114
              go_wp2_with (first | ((with_reducible refine gate_value (x := .tmp 11) rfl ?_); refine goesF_ (some 16) rfl rfl lb heg #[.agg #[.int .i64 ((rd_T49 l0 x8_1).f0), .int .i64 ((rd_T49 l0 x8_1).f1)]] rfl rfl (by (try simp only [List.map_toArray, List.map_cons, List.map_nil]); first | done | rfl | (simp only [List.length_drop, List.length_take]; rfl)) ?_; refine (hp ((rd_T49 l0 x8_1).f0) ((rd_T49 l0 x8_1).f1) true _ A6.out (by repeat (first | (with_reducible first | exact HB.out | apply below_alloc | apply pw_below_drewN | apply below_drew1) | exact HB.out))).mono ?_; rintro e w8 ⟨rfl, hb⟩; refine ⟨_, rfl, ?_⟩; have n0_ := Aside0.mk (below_step (by repeat (first | (with_reducible first | exact HB.out | apply below_alloc | apply pw_below_drewN | apply below_drew1) | exact HB.out)) hb); clear HB; have HB := n0_; clear n0_; (try clear hb); (try clear hb2); (try clear hk); (try clear hi)))
              go_ret
              exact ⟨by first | rfl | (simp [errW_none, errW_some] <;> rfl) | (simp [*, errW_none, errW_some] <;> rfl), by repeat (first | (with_reducible first | exact HB.out | apply below_alloc | apply pw_below_drewN | apply below_drew1) | exact HB.out)⟩
            · replace c7 := Bool.eq_false_iff.mpr c7
              subst c7
              have H1 : (timer_Nap_35.l0 p k1 l0 (l0.length : Int) (wrap64 (x8_1 + 1))) = some r := by rw [if_neg (show ¬ (false = true) by decide)] at H; exact H
              clear H
              have H := H1
              clear H1
              have H' := Aside0.mk H
              clear H
              have p114 : 0 ≤ (x8_1 : Int) := of_decide_eq_true (by first | (with_reducible assumption) | assumption)
              have q114 : x8_1 < (l0.length : Int) := of_decide_eq_true (by first | (with_reducible assumption) | assumption)
              obtain ⟨ad114, e114, hx114_0, hx114_1⟩ := at_T49 HR0.out x8_1 p114 q114
              cases e114
              replace hx114_0 := (HB.out.cell (World.block_lt_of_cell? w _ hx114_0)).trans hx114_0
              replace hx114_1 := (HB.out.cell (World.block_lt_of_cell? w _ hx114_1)).trans hx114_1
              replace p114 := eq_true p114
              replace q114 := eq_true q114
              go_wp2_with (first | ((with_reducible refine gate_value (x := .tmp 11) rfl ?_); refine goesF_ (some 16) rfl rfl lb heg #[.agg #[.int .i64 ((rd_T49 l0 x8_1).f0), .int .i64 ((rd_T49 l0 x8_1).f1)]] rfl rfl (by (try simp only [List.map_toArray, List.map_cons, List.map_nil]); first | done | rfl | (simp only [List.length_drop, List.length_take]; rfl)) ?_; refine (hp ((rd_T49 l0 x8_1).f0) ((rd_T49 l0 x8_1).f1) false _ A6.out (by repeat (first | (with_reducible first | exact HB.out | apply below_alloc | apply pw_below_drewN | apply below_drew1) | exact HB.out))).mono ?_; rintro e w9 ⟨rfl, hb⟩; refine ⟨_, rfl, ?_⟩; have n0_ := Aside0.mk (below_step (by repeat (first | (with_reducible first | exact HB.out | apply below_alloc | apply pw_below_drewN | apply below_drew1) | exact HB.out)) hb); clear HB; have HB := n0_; clear n0_; (try clear hb); (try clear hb2); (try clear hk); (try clear hi)))
              go_roundg k1
              case measure => have := HK1.out; omega
              case rel => exact ⟨(wrap64 (x8_1 + 1)), (by first | rfl | (simp; done) | (simp [*]; done)), H', ⟨by have := HK1.out; omega⟩, ⟨by repeat (first | (with_reducible first | exact HB.out | apply below_alloc | apply pw_below_drewN | apply below_drew1) | exact HB.out)⟩⟩
          · rw [if_neg c5] at H
            exact absurd H (by simp)
        · rw [if_neg c4] at H
          exact absurd H (by simp)
      · rw [if_neg c3] at H
        have c3b0 : decide (x8_1 < (l0.length : Int)) = false := decide_eq_false c3
        clear c3
        obtain rfl := Option.some.inj H
        go_wp2
        go_ret
        exact ⟨by first | rfl | (simp [errW_none, errW_some] <;> rfl) | (simp [*, errW_none, errW_some] <;> rfl), by repeat (first | (with_reducible first | exact HB.out | apply below_alloc | apply pw_below_drewN | apply below_drew1) | exact HB.out)⟩


/-! the closure 'is(id)' -/
theorem enters36 : EntersV Try.prog 36 := EntersV.of Try.func36 (by kernel_rfl) rfl
theorem is_calls (id : Int) (w : World) : Calls Try.prog 25 #[.int .i64 id] w fun e w' => e = .returned (.func (.func 36) #[] #[.pointer (some ⟨w.heap.size, 0, none⟩)]) ∧ w' = w.alloc (.cells #[.int .i64 id] 3) := by
  go_enter Try.func25, Try.ntmps25
  go_wp2
  go_ret
  exact ⟨rfl, rfl⟩
def isOf (id : Int) (a b : Int) : Option Bool := some (a == id)
theorem is1_calls (id : Int) (g : Nat) (c0 c1 : Int) (r : Bool) (w : World) (hc : w.cell? ⟨g, 0, none⟩ = some (.int .i64 id)) (h : isOf id c0 c1 = some r) :
    Calls Try.prog 36 (#[.agg #[.int .i64 c0, .int .i64 c1]] ++ #[.pointer (some ⟨g, 0, none⟩)]) w fun e w' => e = .returned (.bool r) ∧ Below w.heap.size w w' := by
  obtain rfl := Option.some.inj h
  clear h
  have hlt := World.block_lt_of_cell? w _ hc
  have hne : g ≠ w.heap.size := by
    intro e
    subst e
    exact Nat.lt_irrefl _ hlt
  go_enter Try.func36, Try.ntmps36
  go_wp2
  go_ret
  exact ⟨by simp, below_alloc (Below.refl _ _) _⟩
/-- 'slices.ContainsFunc(l, is(id))'. -/
theorem contains_calls (id : Int) (g : Nat) (k : Nat) (A0 : Option Addr) (c0 : Nat) (l0 : List (S49)) (r : Int) (w : World) (hc : w.cell? ⟨g, 0, none⟩ = some (.int .i64 id)) (hr0 : Kd.C k49 w A0 l0.length l0) (hc0 : l0.length ≤ c0) (h : timer_Nap_35.f (isOf id) k l0 = some r) :
    Calls Try.prog 24 #[.slice A0 l0.length c0, .func (.func 36) #[] #[.pointer (some ⟨g, 0, none⟩)]] w fun e w' => e = .returned (.bool (decide (0 ≤ r))) ∧ Below w.heap.size w w' := by
  have hcall := timer_Nap_35.calls 36 #[.pointer (some ⟨g, 0, none⟩)] enters36 (isOf id) k A0 c0 l0 r w (fun a b r W h hb => is1_calls id g a b r W (pw_cell_below hb hc) h) hr0 hc0 h
  clear h hr0 hc
  go_enter Try.func24, Try.ntmps24
  go_wp2_with (first | (go_at_call 35; refine hcall.mono ?_; rintro e w' ⟨rfl, hb⟩) | go_in)
  go_ret
  exact ⟨rfl, hb⟩
theorem is_box (id : Int) (w : World) : Calls Try.prog 25 #[.int .i64 id] w fun e w' => ∃ g, e = .returned (.func (.func 36) #[] #[.pointer (some ⟨g, 0, none⟩)]) ∧ w'.cell? ⟨g, 0, none⟩ = some (.int .i64 id) ∧ Below w.heap.size w w' := by
  refine (is_calls id w).mono ?_
  rintro e w' ⟨rfl, rfl⟩
  exact ⟨_, rfl, (blk_cell (blk_new _ _) 0).trans rfl, below_alloc (Below.refl _ _) _⟩
/-- What 'is(id)' is told by: the number. -/
def timer_is.f (a0 : Int) : Option Int := some a0
def timer_Nap_24.f (k : Nat) (l0 : List S49) (a1 : Int) : Option Bool := (timer_Nap_35.f (isOf a1) k l0).bind fun r => some (decide (0 ≤ r))
theorem timer_Nap_24.mono : ∀ a0 a1 k, LeO (timer_Nap_24.f k a0 a1) (timer_Nap_24.f (k + 1) a0 a1) := by
  intro a0 a1 k
  unfold timer_Nap_24.f
  exact LeO.bind (timer_Nap_35.mono (isOf a1) a0 k) (fun _ => LeO.refl _)
theorem timer_Nap_24.calls (g : Nat) (k : Nat) (A0 : Option Addr) (c0 : Nat) (l0 : List (S49)) (a1 : Int) (r : Bool) (w : World) (hc : w.cell? ⟨g, 0, none⟩ = some (.int .i64 a1)) (hr0 : Kd.C k49 w A0 l0.length l0) (hc0 : l0.length ≤ c0) (h : timer_Nap_24.f k l0 a1 = some r) :
    Calls Try.prog 24 #[.slice A0 l0.length c0, .func (.func 36) #[] #[.pointer (some ⟨g, 0, none⟩)]] w fun e w' => e = .returned (.bool r) ∧ Below w.heap.size w w' := by
  obtain ⟨i, h1, h2⟩ := Option.bind_eq_some_iff.mp h
  obtain rfl := Option.some.inj h2
  exact contains_calls a1 g k A0 c0 l0 i w hc hr0 hc0 h1

end Go.Proofs.Ytinngbfkefaiiaa.P
