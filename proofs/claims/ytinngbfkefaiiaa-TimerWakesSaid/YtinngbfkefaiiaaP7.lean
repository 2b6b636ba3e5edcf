-- Written by a program of this session (xprint.py, asm.py).
import Derived.Test.YtinngbfkefaiiaaP0
import Derived.Test.YtinngbfkefaiiaaP1
import Derived.Test.YtinngbfkefaiiaaP2
import Derived.Test.YtinngbfkefaiiaaP3
import Derived.Test.YtinngbfkefaiiaaP5
import Derived.Test.YtinngbfkefaiiaaX
import Derived.Test.YtinngbfkefaiiaaS
import Derived.Test.YtinngbfkefaiiaaR
namespace Go.Proofs.Ytinngbfkefaiiaa.P
open Go.Proofs.YtinngbfkefaiiaaX Go.RowKit Go.Proofs.YtinngbfkefaiiaaW.PrintWords Go.Proofs.YtinngbfkefaiiaaW.PrintLast Go.Proofs.YtinngbfkefaiiaaW.PrintMore
attribute [local go_sem] max2_int min2_int max_two min_two max_three min_three max_four min_four   -- for this text's walks alone

set_option linter.unusedVariables false
set_option linter.unusedSimpArgs false

/-! ### timer_Due: function 9 -/
section
attribute [local go_sem] Oper.semAt_some
open Go.Shelf
theorem due_calls (A : Option Addr) (n c : Nat) (tick : Int) (w : World) : Calls Try.prog 29 #[.slice A n c, .int .i64 tick] w fun e w' => e = .returned (.func (.func 39) #[] #[.pointer (some ⟨w.heap.size, 0, none⟩), .pointer (some ⟨w.heap.size + 1, 0, none⟩)]) ∧ w' = (w.alloc (.cells #[.slice A n c] 24)).alloc (.cells #[.int .i64 tick] 3) := by
  go_enter Try.func29, Try.ntmps29
  go_wp2
  go_ret
  exact ⟨rfl, rfl⟩
/-- What the iterator's own blocks, and all elder ones but g, keep. -/
def KeepD (g : Nat) (W W' : World) : Prop := W.heap.size ≤ W'.heap.size ∧ ∀ k, k < g + 3 → k ≠ g → W'.heap[k]? = W.heap[k]?
theorem KeepD.refl (g : Nat) (W : World) : KeepD g W W := ⟨Nat.le_refl _, fun _ _ _ => rfl⟩
theorem KeepD.trans {g : Nat} {A B C : World} (h : KeepD g A B) (k : KeepD g B C) : KeepD g A C := ⟨Nat.le_trans h.1 k.1, fun i h1 h2 => (k.2 i h1 h2).trans (h.2 i h1 h2)⟩
theorem KeepD.alloc {g : Nat} {W : World} (h : g + 3 ≤ W.heap.size) (o : Obj) : KeepD g W (W.alloc o) := ⟨by simp, fun k h1 _ => Below.heap_alloc W o k (by omega)⟩
def dueP (tick : Int) (x : S49) : Bool := decide (x.f1 ≤ tick)
set_option maxHeartbeats 2000000 in
/-- The iterator that 'due' hands back, at whatever loop body goes on. -/
theorem due1_in (n : Nat) (hn : 1 ≤ n) (l g : Nat) (A : Option Addr) (c : Nat) (xs : List S49) (tick : Int) (hxs : xs.length ≤ 1000000) (J : List S49 → World → Prop)
    (hJa : ∀ pre W o, J pre W → J pre (W.alloc o)) (hJd : ∀ pre W k, J pre W → J pre (W.drewN k))
    (hY : ∀ pre x W1, J pre W1 → pre.length ≤ xs.length → YieldAt Fence.wide (n - 1) Try.prog l #[.agg #[.int .i64 x.f0, .int .i64 x.f1]] W1 fun e W' =>
      e = .returned (.bool true) ∧ J (pre ++ [x]) W' ∧ KeepD g W1 W')
    (W : World) (hg : g + 3 ≤ W.heap.size) (hF : ∀ W', KeepD g W W' → Kd.C k49 W' A xs.length xs)
    (hB1 : W.heap[g + 1]? = some (.cells #[.slice A xs.length c] 24 (0, 0))) (hB2 : W.heap[g + 2]? = some (.cells #[.int .i64 tick] 3 (0, 0))) (h0 : J [] W) :
    CallsIn Fence.wide n Try.prog 39 #[.func (.yield l) #[] #[], .pointer (some ⟨g + 1, 0, none⟩), .pointer (some ⟨g + 2, 0, none⟩)] W fun e W' => (∃ v, e = .returned v) ∧ J (xs.takeWhile (dueP tick)) W' := by
  refine callsIn_of_wp Try.func39 rfl trivial ?_ rfl
  simp only [Try.ntmps39, List.size_toArray, List.length_cons, List.length_nil, Nat.reduceAdd, Nat.reduceSub, Array.replicate_succ, Array.replicate_zero, List.push_toArray, List.append_toArray, List.nil_append, List.cons_append]
  have hcl : W.cell? ⟨g + 1, 0, none⟩ = some (.slice A xs.length c) := (blk_cell hB1 0).trans rfl
  gi_wp2
  gi_loopw [8] (fun v wr => ∃ (x8 : Int), v = .int .i64 x8 ∧ 0 ≤ x8 ∧ x8 ≤ xs.length ∧ Aside0 (J (xs.take x8.toNat) wr) ∧ Aside0 (KeepD g W wr) ∧ Aside0 (xs.takeWhile (dueP tick) = xs.take x8.toNat ++ (xs.drop x8.toNat).takeWhile (dueP tick)))
    (fun v _ => xs.length - (intOf v).toNat)
  case atStart => exact ⟨0, rfl, Int.le_refl _, by omega, ⟨h0⟩, ⟨KeepD.refl _ _⟩, ⟨by simp⟩⟩
  case round =>
    obtain ⟨x8, rfl, h8, h9, HJ, HK, HT⟩ := hrel
    by_cases hlt : x8 < (xs.length : Int)
    · have hcell := at_T49 (hF wr HK.out) x8 h8 (by omega)
      obtain ⟨ad, e0, hx0, hx1⟩ := hcell
      obtain ⟨x, hx⟩ : ∃ x, rd_T49 xs x8 = x := ⟨_, rfl⟩
      have hd := drop_rd xs x8.toNat (by omega)
      rw [show ((x8.toNat : Nat) : Int) = x8 by omega] at hd
      rw [hx] at hx0 hx1 hd
      subst e0
      have HX := Aside0.mk hd
      clear hd hx
      have h8' := eq_true h8
      have hlt' := eq_true hlt
      have hc2 : (wr.alloc (Obj.cells #[.int .i64 x.f0, .int .i64 x.f1] 49)).cell? ⟨g + 2, 0, none⟩ = some (.int .i64 tick) := (blk_cell (blk_alloc ((HK.out.2 _ (by omega) (by omega)).trans hB2) _) 0).trans rfl
      by_cases hp : x.f1 > tick
      · have hp' : decide (x.f1 > tick) = true := decide_eq_true hp
        gi_wp2
        refine ⟨(fun _ h => by cases h), ?_⟩
        gi_wp2
        refine bodyPost_ret (results_none rfl _ _ _) rfl ?_
        refine ⟨⟨_, rfl⟩, ?_⟩
        have e : xs.takeWhile (dueP tick) = xs.take x8.toNat := by
          rw [HT.out, HX.out, List.takeWhile_cons_of_neg (by simp [dueP]; omega), List.append_nil]
        rw [e]
        exact hJa _ _ _ HJ.out
      · have hp' : decide (x.f1 > tick) = false := decide_eq_false hp
        have HN : Aside0 ((xs.take x8.toNat).length ≤ xs.length) := ⟨by simp; omega⟩
        have HY := Aside0.mk (hY (xs.take x8.toNat) x (wr.alloc (.cells #[.int .i64 x.f0, .int .i64 x.f1] 49)) (hJa _ _ _ HJ.out) HN.out)
        clear hY
        gi_wp2
        obtain ⟨fn, tmps, assign, body, hy, hR⟩ := HY.out
        clear HY
        rw [hy]
        gi_wp2
        refine hR.mono ?_
        rintro e W3 ⟨rfl, hJ3, hk3⟩
        clear hR hy
        gi_wp2
        go_roundw
        case rel =>
          have e1 : (x8 + 1).toNat = x8.toNat + 1 := by omega
          have e2 : xs.take (x8.toNat + 1) = xs.take x8.toNat ++ [x] := by
            have h := congrArg (List.take 1) HX.out
            rw [List.take_add, h]
            rfl
          refine ⟨x8 + 1, by go_num, by omega, by omega, ⟨by rw [e1, e2]; exact hJ3⟩, ⟨(HK.out.trans (KeepD.alloc (Nat.le_trans hg HK.out.1) _)).trans hk3⟩, ⟨?_⟩⟩
          rw [HT.out, HX.out, e1, e2, List.takeWhile_cons_of_pos (by simp [dueP]; omega)]
          simp
        case measure => simp only [intOf]; omega
    · have hlt' := eq_false hlt
      gi_wp2
      have e1 : x8 = xs.length := by omega
      subst e1
      refine bodyPost_end (results_none rfl _ _ _) rfl ?_
      refine ⟨⟨_, rfl⟩, ?_⟩
      have e : xs.takeWhile (dueP tick) = xs.take (xs.length : Int).toNat := by
        rw [HT.out]
        simp
      rw [e]
      exact HJ.out
/-- What the loop keeps: the box holds the row of the ids that have come. -/
structure CollD (w1 : World) (pre : List S49) (W : World) : Prop where
  box : ∃ v, W.heap[w1.heap.size]? = some (.cells #[v] 22 (0, 0)) ∧ W.ownsRow (w1.heap.size + 3) 3 1 v pre.length (pre.map fun x => Value.int .i64 x.f0)
  below : Below w1.heap.size w1 W
  size : w1.heap.size + 3 ≤ W.heap.size
theorem CollD.drewN {w W : World} {pre : List S49} (h : CollD w pre W) (k : Nat) : CollD w pre (W.drewN k) := by
  obtain ⟨⟨u, hb, ho⟩, hB, hs⟩ := h
  exact ⟨⟨u, hb, own_move ho (fun _ _ => rfl)⟩, pw_below_drewN hB k, hs⟩
theorem CollD.put {w W : World} {pre : List S49} (h : CollD w pre W) {l : Nat} {o : Obj} (o' : Obj) (hl : W.heap[l]? = some o) (hge : w.heap.size + 3 ≤ l) (ho : o.isCells = false) : CollD w pre (W.putObj l o') := by
  obtain ⟨⟨u, hb, hr⟩, hB, hs⟩ := h
  have hne : ∀ k, u.ownBlock = some k → k ≠ l := by
    rintro k hk rfl
    obtain ⟨cells, hc⟩ := own_typed hr k hk
    rw [hc] at hl; cases hl; simp [Obj.isCells] at ho
  refine ⟨⟨u, ?_, own_move hr (fun k hk => World.putObj_heap_other (hne k hk))⟩, ?_, by simpa using hs⟩
  · rw [World.putObj_heap_other (by omega)]; exact hb
  · exact hB.grown (grownBy_putObj' W l o') (by omega) (fun k e => by cases e; omega)
theorem CollD.made {w W : World} {pre : List S49} (h : CollD w pre W) (o : Obj) : CollD w pre (W.alloc o) := by
  obtain ⟨⟨u, hb, hr⟩, hB, hs⟩ := h
  exact ⟨⟨u, blk_alloc hb o, hr.alloc o⟩, hB.alloc (by omega) o, by simp; omega⟩
theorem CollD.app {w W w1 : World} {pre : List S49} {x : S49} {v v' : Value} {o : Obj} (hb : W.heap[w.heap.size]? = some (.cells #[v] 22 (0, 0))) (hr : W.ownsRow (w.heap.size + 3) 3 1 v pre.length (pre.map fun x => Value.int .i64 x.f0)) (hB : Below w.heap.size w W) (hs : w.heap.size + 3 ≤ W.heap.size)
    (hown : w1.ownsRow (w.heap.size + 3) 3 1 v' (pre.length + 1) ((pre.map fun x => Value.int .i64 x.f0) ++ [.int .i64 x.f0])) (hg : (W.alloc o).grownBy w1 v.ownBlock) :
    w1.heap[w.heap.size]? = some (.cells #[v] 22 (0, 0)) ∧ CollD w (pre ++ [x]) (w1.setCell ⟨w.heap.size, 0, none⟩ v') ∧ KeepsOthers W (w1.setCell ⟨w.heap.size, 0, none⟩ v') ∧ KeepD w.heap.size W (w1.setCell ⟨w.heap.size, 0, none⟩ v') := by
  have hne : ∀ k, k < w.heap.size + 3 → some k ≠ v.ownBlock := fun k hk e => by have := own_base hr k e.symm; omega
  have hb1 : w1.heap[w.heap.size]? = some (.cells #[v] 22 (0, 0)) := blk_grown (blk_alloc hb o) hg (hne _ (by omega))
  refine ⟨hb1, ⟨⟨v', blk_put hb1 0 v' rfl, ?_⟩, ?_, ?_⟩, ?_, ?_, ?_⟩
  · have := own_move hown (w1 := w1.setCell ⟨w.heap.size, 0, none⟩ v') (fun k hk => Below.heap_setCell w1 _ v' k (by have := own_base hown k hk; simp; omega))
    simpa using this
  · refine Below.setCell (p := ⟨w.heap.size, 0, none⟩) ?_ (Nat.le_refl _) _
    exact (hB.alloc (by omega) o).grown hg (by simp; omega) (fun k hk => by have := own_base hr k hk; omega)
  · have := hg.size
    simp at this ⊢; omega
  · refine ((KeepsOthers.alloc W o).trans (KeepsOthers.of_grownBy hg fun j oj ej hj => ?_)).trans (KeepsOthers.setCell _ _ _)
    obtain ⟨cells, hc⟩ := own_typed (hr.alloc o) j ej
    rw [hc] at hj; cases hj; rfl
  · have := hg.size
    simp at this ⊢; omega
  · intro k hk hkne
    rw [Below.heap_setCell w1 _ v' _ hkne]
    have hlt : k < W.heap.size := by omega
    rw [hg.block _ (by simp; omega) (hne _ hk)]
    exact Below.heap_alloc W o _ hlt
def timer_Due.f (l0 : List (S49)) (a1 : Int) : Option (List S49 × List Int) := (timer_sane.f l0).bind fun s => if s.length ≤ 1000000 then some (s.drop (s.takeWhile (dueP a1)).length, (s.takeWhile (dueP a1)).map fun x => x.f0) else none
theorem info3i : (Try.prog.info? 3).map (fun i => (i.zero, i.size, i.bytes)) = some (some (.int .i64 0), 1, 8) := by kernel_rfl
set_option maxHeartbeats 4000000 in
theorem due_in (A0 : Option Addr) (c0 : Nat) (l0 s : List (S49)) (a1 : Int) (w : World) (hr0 : Kd.C k49 w A0 l0.length l0) (hc0 : l0.length ≤ c0) (hs : timer_sane.f l0 = some s) (hbig : s.length ≤ 1000000) :
    CallsIn Fence.wide 4 Try.prog 9 #[.slice A0 l0.length c0, .int .i64 a1] w fun e w' => ∃ v0_ v1_ : Value, e = .returned (.tuple #[v0_, v1_]) ∧ Kd.V k49 49 w' w.heap.size (fun k_ => (w.heap.size ≤ k_)) v0_ (s.drop (s.takeWhile (dueP a1)).length) ∧ Kd.V (Kd.int .i64) 3 w' w.heap.size (fun k_ => (w.heap.size ≤ k_)) v1_ ((s.takeWhile (dueP a1)).map fun x => x.f0) ∧ Below w.heap.size w w' := by
  have HV0 := Aside0.mk (Kd.V_mk (d := k49) (e := 49) (W := w) (base := w.heap.size) hc0 (Kd.C_F k49_heap hr0))
  clear hr0
  refine callsIn_of_wp_marks Try.func9 rfl trivial ?_ rfl
  simp only [Try.ntmps9, List.size_toArray, List.length_cons, List.length_nil, Nat.reduceAdd, Nat.reduceSub, Array.replicate_succ, Array.replicate_zero, List.push_toArray, List.append_toArray, List.nil_append, List.cons_append]
  gi_wp2_with (refine ⟨trivial, ?_⟩; first | (gi_at_call 22; refine (callsIn_wide (n := 3)).2 ((timer_sane.calls (fun k_ => k_ < w.heap.size) _ _ l0 s _ HV0.out hs).mono ?_); rintro e w1 ⟨v1, rfl, hV, hb1⟩; obtain ⟨A1, c1, rfl⟩ := Kd.V_slice hV; replace hV := Aside0.mk hV; replace hb1 := Aside0.mk hb1) | (gi_at_call 29; refine (callsIn_wide (n := 3)).2 ((due_calls A1 s.length c1 a1 _).mono ?_); rintro e w' ⟨rfl, rfl⟩))
  have e39 : ∀ args w, (callFunc 39 args).run Try.prog w = .ok (.enter 39 args) w := EntersV.of Try.func39 (by kernel_rfl) rfl
  obtain ⟨i0, hi, hz0, hz1, hz2⟩ := info_parts info3i
  have hlc1 : s.length ≤ c1 := (Kd.V_at hV.out).2.1
  refine wpIn_rangeFunc_DB (α := S49) rfl (by decide) (gf := 39) (lb := #[.pointer (some ⟨w1.heap.size + 1, 0, none⟩), .pointer (some ⟨w1.heap.size + 1 + 1, 0, none⟩)]) rfl trivial e39 (encs := fun x => #[.agg #[.int .i64 x.f0, .int .i64 x.f1]])
    (Ab := fun W W' => (∃ o, W' = W.alloc o) ∨ ∃ k, W' = W.drewN k) (Kp := KeepD w1.heap.size)
    (Start := fun W => w1.heap.size + 3 ≤ W.heap.size ∧ Below w1.heap.size w1 W ∧ W.heap[w1.heap.size + 1]? = some (.cells #[.slice A1 s.length c1] 24 (0, 0)) ∧ W.heap[w1.heap.size + 2]? = some (.cells #[.int .i64 a1] 3 (0, 0))) (xs := s.takeWhile (dueP a1)) (N := s.length)
    (fun l J W hJ hY hS h0 => ?seq) ?ab (fun h k => h.trans k) (fun W l o o' hl _ _ => ?kb) (fun _ => rfl) (CollD w1) (fun pre W W' h hab => ?ia) (fun pre W l o o' h hl ho hc => ?ir)
    (fun o o' => ?h0) (fun o o' => ?hs) (fun x => .cells #[.int .i64 x.f0, .int .i64 x.f1] 49)
    (fun x W => { tmps := #[.slice A1 s.length c1, .int .i64 a1, undef, undef, .slice none 0 0, .slice none 0 0, .pointer (some ⟨w1.heap.size, 0, none⟩), .pointer (some ⟨W.heap.size, 0, none⟩), .slice A0 l0.length c0, .slice A1 s.length c1, .slice A1 s.length c1, .int .i64 a1,
      .func (.func 39) #[] #[.pointer (some ⟨w1.heap.size + 1, 0, none⟩), .pointer (some ⟨w1.heap.size + 1 + 1, 0, none⟩)], .agg #[.int .i64 x.f0, .int .i64 x.f1], undef, undef, undef, undef, undef, undef, undef, undef, undef, undef, undef], defers := [] })
    (fun pre W o h => h.made o) (fun W o h => KeepD.alloc (by simp at h; omega) o)
    ?assign ?body ?done
  case seq =>
    refine due1_in (4 - 1) (by decide) l w1.heap.size A1 c1 s a1 hbig J (fun pre W o h => hJ pre W _ h (.inl ⟨o, rfl⟩)) (fun pre W k h => hJ pre W _ h (.inr ⟨k, rfl⟩)) hY W hS.1 (fun W' hK => ?_) hS.2.2.1 hS.2.2.2 h0
    exact (Kd.V_at hV.out).2.2 W' (fun k _ hk => (hK.2 k (by omega) (by omega)).trans (hS.2.1.block k hk))
  case ab =>
    rintro W W' k o (⟨o2, rfl⟩ | ⟨m, rfl⟩) hk ho hc
    · exact blk_alloc ho o2
    · exact ho
  case kb => exact ⟨by simp, fun k hk hne => World.putObj_heap_other (by simp at hl; omega)⟩
  case ia =>
    rcases hab with ⟨o, rfl⟩ | ⟨m, rfl⟩
    · exact h.made o
    · exact h.drewN m
  case ir => exact h.put o' ho (by simp at hl; omega) hc
  case h0 =>
    exact CollD.made (CollD.made ⟨⟨_, blk_alloc (blk_alloc (blk_new w1 _) _) _, own_nil _ _ _ _⟩, below_alloc (below_alloc (below_alloc (Below.refl _ _) _) _) _, by simp⟩ o) o'
  case hs =>
    refine ⟨by simp, below_alloc (below_alloc (below_alloc (below_alloc (below_alloc (Below.refl _ _) _) _) _) _) _, blk_alloc (blk_alloc (blk_alloc ?_ _) o) o', blk_alloc (blk_alloc ?_ o) o'⟩
    · have := blk_new (w1.alloc (.cells #[.slice none 0 0] 22)) (.cells #[.slice A1 s.length c1] 24)
      rwa [World.size_alloc] at this
    · have := blk_new ((w1.alloc (.cells #[.slice none 0 0] 22)).alloc (.cells #[.slice A1 s.length c1] 24)) (.cells #[.int .i64 a1] 3)
      rwa [World.size_alloc, World.size_alloc] at this
  case assign =>
    intro l x W K hK
    gi_wp2
    exact hK
  case body =>
    rintro l pre x W0 W ⟨⟨v, hb, hr⟩, hB, hsz⟩ hlen hW0 hn
    have hc0 : W.cell? ⟨w1.heap.size, 0, none⟩ = some v := (blk_cell hb 0).trans rfl
    have hf0 := blk_frozen hb 0
    have hn0 : W.cell? ⟨W0.heap.size, 0, none⟩ = some (.int .i64 x.f0) := (blk_cell hn 0).trans rfl
    gi_wp2_with (gi_at_builtin; refine wpListIn_append_own _ rfl _ _ 22 rfl (w1.heap.size + 3) 3 i0 (.int .i64 0) 1 8 Try.underlying22 hi hz0 hz1 hz2 rfl (by decide) _ _ _ rfl (hr.alloc _) ⟨W.heap.size, 0, none⟩ 1 1 [.int .i64 x.f0] rfl rfl (cell_one_new _ _ _) (by simp [Value.oneCell']) (by unfold maxLen; omega) (by omega) (by simp; omega) ?_; intro v' w2 hown' hgrow _; obtain ⟨g', cap', rfl⟩ := ownsRow_succ hown'; obtain ⟨hv1, hc1, hk1, hq1⟩ := CollD.app hb hr hB hsz hown' hgrow; have hcv := (blk_cell hv1 0).trans rfl; have hfv := blk_frozen hv1 0)
    exact ⟨hk1.from _, hq1, hc1⟩
  case done =>
    rintro D W hD ⟨⟨v, hb, hr⟩, hB, hsz⟩ hK
    have hTl : (s.takeWhile (dueP a1)).length ≤ s.length := (List.takeWhile_sublist _).length_le
    obtain ⟨T, hT⟩ : ∃ T, s.takeWhile (dueP a1) = T := ⟨_, rfl⟩
    rw [hT] at hr hTl
    have hri : W.ownsRow (w1.heap.size + 3) 3 1 v (T.map fun x => x.f0).length ((T.map fun x => x.f0).map (Value.int .i64)) := by
      rw [List.length_map, List.map_map]; exact hr
    have hRv := (Kd.R_of_own (h1 := fun _ => rfl) (ok := fun _ => True) hri (fun _ _ => trivial) : Kd.R (Kd.int .i64) 3 W (w1.heap.size + 3) (fun _ => True) v (T.map fun x => x.f0))
    obtain ⟨A2, c2, rfl, hlc2, _⟩ := Kd.R_reads hRv
    rw [List.length_map] at hb
    have HT := Aside0.mk hT
    have HR := Aside0.mk hRv
    have HB := Aside0.mk hB
    have HBX := Aside0.mk hb
    have HKD := Aside0.mk hK
    clear hT hRv hB hr hri hK
    have hT0 : 0 ≤ (T.length : Int) := by omega
    have hT1 : (T.length : Int) ≤ (s.length : Int) := by omega
    have hT2 : (s.length : Int) ≤ (c1 : Int) := by omega
    gi_wp2
    refine wpIn_onlyN ?_
    refine start_ (n := 8) (S := fun w' => w'.cell? ⟨w1.heap.size, 0, none⟩ = some (.slice A2 T.length c2)) (ds := []) #[false, false, false, false, false, false, false, false] (by kernel_rfl) rfl rfl ((blk_cell HBX.out 0).trans rfl) (fun hHeld => ?_)
    refine pure_ (i := 0) (N := some 19) (v := ?_) (a' := ?_) #[true, false, false, false, false, false, false, false] rfl rfl (by kernel_rfl) (fun _ _ _ h => h) (Or.inl ⟨by rfl, ?_⟩) ?_ ?_
    rotate_left
    · intro w'
      go_simp
      with_reducible rfl
    rotate_left
    · simp only [Act.put, List.setIfInBounds_toArray, List.set_cons_zero, List.set_cons_succ, i64_w, i32_w]
      rfl
    refine take_ (i := 1) (N := some 20) (v := ?_) (a' := ?_) #[true, true, false, false, false, false, false, false] rfl rfl (by kernel_rfl) (fun _ _ _ h => h) (Or.inl ⟨by rfl, ?_⟩) hHeld ?_ ?_
    rotate_left
    · rintro w' s0
      go_simp
      with_reducible rfl
    rotate_left
    · simp only [Act.put, List.setIfInBounds_toArray, List.set_cons_zero, List.set_cons_succ, i64_w, i32_w]
      rfl
    refine pure_ (i := 2) (N := some 21) (v := ?_) (a' := ?_) #[true, true, true, false, false, false, false, false] rfl rfl (by kernel_rfl) (fun _ _ _ h => h) (Or.inl ⟨by rfl, ?_⟩) ?_ ?_
    rotate_left
    · intro w'
      go_simp
      with_reducible rfl
    rotate_left
    · simp only [Act.put, List.setIfInBounds_toArray, List.set_cons_zero, List.set_cons_succ, i64_w, i32_w]
      rfl
    refine pure_ (i := 3) (N := some 22) (v := ?_) (a' := ?_) #[true, true, true, true, false, false, false, false] rfl rfl (by kernel_rfl) (fun _ _ _ h => h) (Or.inl ⟨by rfl, ?_⟩) ?_ ?_
    rotate_left
    · intro w'
      go_simp
      with_reducible rfl
    rotate_left
    · simp only [Act.put, List.setIfInBounds_toArray, List.set_cons_zero, List.set_cons_succ, i64_w, i32_w]
      rfl
    refine take_ (i := 5) (N := some 24) (v := ?_) (a' := ?_) #[true, true, true, true, false, true, false, false] rfl rfl (by kernel_rfl) (fun _ _ _ h => h) (Or.inl ⟨by rfl, ?_⟩) hHeld ?_ ?_
    rotate_left
    · rintro w' s0
      go_simp
      with_reducible rfl
    rotate_left
    · simp only [Act.put, List.setIfInBounds_toArray, List.set_cons_zero, List.set_cons_succ, i64_w, i32_w]
      rfl
    have n0_ := Aside0.mk (below_drew1 (below_step hb1.out HB.out))
    have n1_ := Aside0.mk (Kd.R_drew HR.out)
    have n2_ := Aside0.mk (blk_drew HBX.out)
    have n3_ := Aside0.mk (show W.drew.heap[D]? = _ from HKD.out)
    have hC := Kd.C_below (Kd.V_reads' hV.out).2.2 HB.out
    have hC1 := Kd.C_drop hC hTl hlc1
    have hC2 := Kd.C_drew hC1
    rw [show k49.sz = 2 from rfl] at hC2
    have hsz := Nat.le_trans hsz (Nat.le_refl W.drew.heap.size)
    clear HB HR HBX HKD hC hC1
    have hD' : w1.heap.size + 3 ≤ D := by simpa using hD
    generalize W.drew = W5 at n0_ n1_ n2_ n3_ hHeld hC2 hsz ⊢
    rw [List.length_drop] at hC2
    have hge1 := hb1.out.size
    have hcl := fun (AX : Option Addr) (h : Kd.C k49 W5 AX (s.length - T.length) (s.drop T.length)) => timer_Nap_26.calls AX (c1 - T.length) (s.drop T.length) (s.drop T.length) W5 (by rw [List.length_drop]; exact h) (by rw [List.length_drop]; omega) (by
      have hl := List.length_drop (i := T.length) (l := s)
      unfold timer_Nap_26.f
      simp only [Option.bind_some, List.nil_append, List.length_nil, Nat.zero_add]
      rw [if_pos (by omega)])
    simp only [List.length_drop] at hcl
    replace hcl := hcl _ hC2
    clear hC2
    generalize (if c1 = T.length then A1 else Option.map (fun x => x.add (T.length * 2)) A1) = AX at hcl ⊢
    refine one_ (i := 4) (N := some 23) #[true, true, true, true, true, true, false, false] rfl rfl (by kernel_rfl) (by decide) (fun K hK => ?_)
    refine goes_ Try.func26 (by kernel_rfl) rfl #[.slice AX (s.length - T.length) (c1 - T.length)] (by rfl) rfl rfl (by (try simp only [List.map_toArray, List.map_cons, List.map_nil]); first | done | rfl) ?_
    refine hcl.mono ?_
    rintro e w14 ⟨v0, rfl, hR0, hb⟩
    refine ⟨_, rfl, ?_⟩
    have hbx := blk_below n2_.out hb
    have hdx := blk_below n3_.out hb
    have hB14 := below_step n0_.out hb
    have hRi := Kd.R_step n1_.out (fun k _ hlt => hb.block k hlt)
    have hsz14 := Nat.le_trans hsz hb.size
    refine hK.out _ _ ((blk_cell hbx 0).trans rfl) (fun hHeld => ?_)
    clear hK K
    refine norm_ (a' := ?_) ?_ ?_
    rotate_left
    · show Act.put _ (some 23) _ = _
      simp only [Act.put, List.setIfInBounds_toArray, List.set_cons_zero, List.set_cons_succ, i64_w, i32_w]
      rfl
    refine pure_ (i := 6) (N := some 4) (v := ?_) (a' := ?_) #[true, true, true, true, true, true, true, false] rfl rfl (by kernel_rfl) (fun _ _ _ h => h) (Or.inl ⟨by rfl, ?_⟩) ?_ ?_
    rotate_left
    · intro w'
      go_simp
      with_reducible rfl
    rotate_left
    · simp only [Act.put, List.setIfInBounds_toArray, List.set_cons_zero, List.set_cons_succ, i64_w, i32_w]
      rfl
    refine pure_ (i := 7) (N := some 5) (v := ?_) (a' := ?_) #[true, true, true, true, true, true, true, true] rfl rfl (by kernel_rfl) (fun _ _ _ h => h) (Or.inl ⟨by rfl, ?_⟩) ?_ ?_
    rotate_left
    · intro w'
      go_simp
      with_reducible rfl
    rotate_left
    · simp only [Act.put, List.setIfInBounds_toArray, List.set_cons_zero, List.set_cons_succ, i64_w, i32_w]
      rfl
    refine done_ (by kernel_rfl) ?_
    simp only [onlyN]
    gi_wp2
    have hR1 := Kd.R_move (w1 := w14.putObj D (.deferred none)) (Kd.R_bound hR0) (fun k hk => World.putObj_heap_other (by
      rintro rfl
      obtain ⟨_, _, _, q, _, cells, hc⟩ := hk
      rw [hdx] at hc
      cases hc))
    have hR2 := Kd.R_move (w1 := w14.putObj D (.deferred none)) (Kd.R_bound hRi) (fun k hk => World.putObj_heap_other (by
      rintro rfl
      obtain ⟨_, _, _, q, _, cells, hc⟩ := hk
      rw [hdx] at hc
      cases hc))
    refine ⟨by simp, .inl ⟨_, _, rfl, run_takeDeferred hdx, ?_⟩⟩
    refine ⟨_, results_tmp2 rfl _ _ _, v0, .slice A2 T.length c2, rfl, ?_, ?_, ?_⟩
    · rw [HT.out]
      exact Kd.V_mono (Kd.R_V hR1) (fun k hk => Nat.le_trans (Nat.le_trans hge1 (by omega)) hk.2.1)
    · rw [HT.out]
      have := Kd.V_mono (ok' := fun k_ => w.heap.size ≤ k_) (Kd.R_V (base' := w.heap.size) hR2) (fun k hk => Nat.le_trans (Nat.le_trans hge1 (by omega)) hk.2.1)
      rw [List.length_map] at this
      exact this
    · exact hB14.grown (grownBy_putObj' w14 D _) (by omega) (fun k e => by cases e; omega)
theorem timer_Due.calls (A0 : Option Addr) (c0 : Nat) (l0 : List (S49)) (a1 : Int) (r1 : List (S49)) (r2 : List Int) (w : World) (hr0 : Kd.C k49 w A0 l0.length l0) (hc0 : l0.length ≤ c0) (h : timer_Due.f l0 a1 = some (r1, r2)) :
    Calls Try.prog 9 #[.slice A0 l0.length c0, .int .i64 a1] w fun e w' => ∃ v0_ v1_ : Value, e = .returned (.tuple #[v0_, v1_]) ∧ Kd.V k49 49 w' w.heap.size (fun k_ => (w.heap.size ≤ k_)) v0_ r1 ∧ Kd.V (Kd.int .i64) 3 w' w.heap.size (fun k_ => (w.heap.size ≤ k_)) v1_ r2 ∧ Below w.heap.size w w' := by
  obtain ⟨s, hs, h⟩ := Option.bind_eq_some_iff.mp h
  split at h
  · rename_i hbig
    simp only [Option.some.injEq, Prod.mk.injEq] at h
    obtain ⟨rfl, rfl⟩ := h
    exact callsIn_wide.1 (due_in A0 c0 l0 s a1 w hr0 hc0 hs hbig)
  · simp at h
end
-- timer_Sane.f timer_sane.f timer_Nap_26.f


end Go.Proofs.Ytinngbfkefaiiaa.P
