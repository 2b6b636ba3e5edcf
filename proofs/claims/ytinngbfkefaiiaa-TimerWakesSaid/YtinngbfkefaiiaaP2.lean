-- Written by a program of this session (xprint.py, asm.py).
import Derived.Test.YtinngbfkefaiiaaP0
import Derived.Test.YtinngbfkefaiiaaP1
import Derived.Test.YtinngbfkefaiiaaX
import Derived.Test.YtinngbfkefaiiaaS
import Derived.Test.YtinngbfkefaiiaaR
namespace Go.Proofs.Ytinngbfkefaiiaa.P
open Go.Proofs.YtinngbfkefaiiaaX Go.RowKit Go.Proofs.YtinngbfkefaiiaaW.PrintWords Go.Proofs.YtinngbfkefaiiaaW.PrintLast Go.Proofs.YtinngbfkefaiiaaW.PrintMore
attribute [local go_sem] max2_int min2_int max_two min_two max_three min_three max_four min_four   -- for this text's walks alone

set_option linter.unusedVariables false
set_option linter.unusedSimpArgs false

/-! ### timer_Sane: function 10 -/
def mayB (x : S49) : Bool := decide (0 ≤ x.f0) && decide (x.f0 ≤ 7) && decide (0 ≤ x.f1) && decide (x.f1 ≤ 1125899906842624)
theorem may_eq (x : S49) : timer_Nap_may.f x.f0 x.f1 = some (mayB x) := by
  unfold timer_Nap_may.f timer_within.f mayB
  by_cases h0 : 0 ≤ x.f0 <;> by_cases h1 : x.f0 ≤ 7 <;> by_cases h2 : 0 ≤ x.f1 <;> by_cases h3 : x.f1 ≤ 1125899906842624 <;> simp [h0, h1, h2, h3]
/-- May these be, beside those seen? -/
def timer_Sane.chk : List S49 → List Int → Bool
  | [], _ => true
  | x :: l, seen => mayB x && (!seen.contains x.f0) && timer_Sane.chk l (x.f0 :: seen)
def timer_Sane.f (l0 : List (S49)) : Option (Bool) := if l0.length ≤ 1000000 then (if timer_Sane.chk l0 [] = true then timer_Nap_30.f (l0.length + 2) l0 else some false) else none
theorem law3 : Go.Maps.Keyed Try.prog 3 := Go.Maps.int_keyed Try.underlying3
theorem zero4 (w : World) : (zeroValue 4).run Try.prog w = .ok (.bool false) w := by kernel_rfl
theorem drop_rd (l : List S49) (k : Nat) (h : k < l.length) : l.drop k = rd_T49 l (k : Int) :: l.drop (k + 1) := by
  rw [List.drop_eq_getElem_cons h]
  congr 1
  unfold rd_T49
  simp [List.getD, h]
set_option maxHeartbeats 8000000 in
set_option maxRecDepth 100000 in
theorem timer_Sane.calls (A0 : Option Addr) (c0 : Nat) (l0 : List (S49)) (r : Bool) (w : World) (hr0 : Kd.C k49 w A0 l0.length l0) (hc0 : l0.length ≤ c0) (h : timer_Sane.f l0 = some r) :
    Calls Try.prog 10 #[.slice A0 l0.length c0] w fun e w' => e = .returned (.bool r) ∧ Below w.heap.size w w' := by
  have hu49 := Try.underlying49
  have HR0 := Aside0.mk hr0
  have HC0 := Aside0.mk hc0
  clear hr0 hc0
  unfold timer_Sane.f at h
  split at h
  · rename_i hbig
    have HN := Aside0.mk h
    clear h
    have hmm := @run_makeMap Try.prog
    go_enter Try.func10, Try.ntmps10
    go_wp2
    go_loopw [9] (fun i wr => ∃ (x9 : Int) (seen : List Int) (D : DataW Unit), i = .int .i64 x9 ∧ 0 ≤ x9 ∧ x9 ≤ l0.length ∧ Aside0 (wr.ownsMap Try.prog 3 (plainElem Try.prog 4) w.heap.size x9.toNat D) ∧ Aside0 (Marks D seen) ∧ Aside0 (timer_Sane.chk l0 [] = timer_Sane.chk (l0.drop x9.toNat) seen) ∧ Aside0 (Below w.heap.size w wr))
      (fun i _ => l0.length - (intOf i).toNat)
    case atStart => exact ⟨0, [], _, rfl, Int.le_refl _, by omega, ⟨World.ownsMap_made _ _ _ _⟩, ⟨marks_empty⟩, ⟨rfl⟩, ⟨below_alloc (Below.refl _ _) _⟩⟩
    case round =>
      obtain ⟨x9, seen, D, rfl, h0, h1, HM, HS, HK, HB⟩ := hrel
      by_cases hlt : x9 < (l0.length : Int)
      · have hcell := at_T49 HR0.out x9 h0 (by omega)
        obtain ⟨ad, e0, hx0, hx1⟩ := hcell
        subst e0
        obtain ⟨x, hx⟩ : ∃ x, rd_T49 l0 x9 = x := ⟨_, rfl⟩
        have hd := drop_rd l0 x9.toNat (by omega)
        rw [show ((x9.toNat : Nat) : Int) = x9 by omega] at hd
        rw [hx] at hx0 hx1 hd
        have hy0 := (HB.out.cell (World.block_lt_of_cell? w _ hx0)).trans hx0
        have hy1 := (HB.out.cell (World.block_lt_of_cell? w _ hx1)).trans hx1
        clear hx0 hx1 hx
        have hmay := may_eq x
        rw [hd] at HK
        have HD := Aside0.mk hd
        clear hd
        have h0' := eq_true h0
        have hlt' := eq_true hlt
        have hML := HM.out.lt
        cases hm : mayB x with
        | false =>
          rw [hm] at hmay
          go_wp2_with (first | (go_at_call 23; refine (timer_Nap_may.calls x.f0 x.f1 false _ hmay).mono ?_; rintro e w' ⟨rfl, hb⟩) | go_in)
          have hz := HN.out
          rw [if_neg (by rw [HK.out]; simp [timer_Sane.chk, hm])] at hz
          obtain rfl := Option.some.inj hz
          go_ret
          exact ⟨rfl, below_step (below_alloc HB.out _) hb⟩
        | true =>
          rw [hm] at hmay
          have hwx : (Lit.int .i64 x.f0).wf = true := by
            simp only [mayB, Bool.and_eq_true, decide_eq_true_eq] at hm
            exact WalkArith.wf_i64 (by omega)
          have hwf : keyOf Try.prog 3 (.int .i64 x.f0) = some (.int .i64 x.f0) := Go.Maps.keyOf_int_mk Try.underlying3 hwx
          clear hwx
          cases hs : seen.contains x.f0 with
          | true =>
            go_wp2_with (first | (go_at_call 23; refine (timer_Nap_may.calls x.f0 x.f1 true _ hmay).mono ?_; rintro e w' ⟨rfl, hb⟩; have hz := blk_below (blk_new wr (Obj.cells #[.int .i64 x.f0, .int .i64 x.f1] 49)) hb; have hz0 := (blk_cell hz 0).trans rfl; have ho := owns_heap HM.out ((below_step (below_alloc (Below.refl wr.heap.size wr) _) hb).block _ hML); clear hz; replace hb := Aside0.mk (below_step (below_alloc HB.out _) hb)) | (at_lookup; refine gate_guard rfl ?_; refine wpList_lookup_own_bool _ rfl _ _ 59 rfl 3 4 law3 Try.underlying59 Try.underlying4 (zero4 _) w.heap.size _ D rfl ho _ _ rfl hwf true ((HS.out.2 x.f0).trans (by rw [hs])) ?_) | go_in)
            have hz := HN.out
            rw [if_neg (by rw [HK.out]; simp only [timer_Sane.chk, hm, hs, Bool.not_true, Bool.and_false, Bool.false_and, Bool.false_eq_true, not_false_eq_true])] at hz
            obtain rfl := Option.some.inj hz
            go_ret
            exact ⟨rfl, hb.out⟩
          | false =>
            go_wp2_with (first | (go_at_call 23; refine (timer_Nap_may.calls x.f0 x.f1 true _ hmay).mono ?_; rintro e w' ⟨rfl, hb⟩; have hz := blk_below (blk_new wr (Obj.cells #[.int .i64 x.f0, .int .i64 x.f1] 49)) hb; have hz0 := (blk_cell hz 0).trans rfl; have ho := owns_heap HM.out ((below_step (below_alloc (Below.refl wr.heap.size wr) _) hb).block _ hML); clear hz; replace hb := Aside0.mk (below_step (below_alloc HB.out _) hb)) | (at_lookup; refine gate_guard rfl ?_; refine wpList_lookup_own_bool _ rfl _ _ 59 rfl 3 4 law3 Try.underlying59 Try.underlying4 (zero4 _) w.heap.size _ D rfl ho _ _ rfl hwf false ((HS.out.2 x.f0).trans (by rw [hs])) ?_) | (at_mapUpdate; refine wpList_mapUpdate_own _ rfl _ _ _ 59 rfl 3 4 law3 Try.underlying59 _ w.heap.size x9.toNat _ rfl ho (by unfold maxLen; omega) _ _ _ rfl rfl hwf _ [] (plainElem_bool Try.underlying4 true) ?_; intro w1 hown1 hgrow1) | go_in)
            go_roundw
            case measure => simp only [intOf]; omega
            case rel =>
              have e1 : (x9 + 1).toNat = x9.toNat + 1 := by omega
              refine ⟨x9 + 1, x.f0 :: seen, _, by go_num, by omega, by omega, ⟨by rw [e1]; exact hown1⟩, ⟨marks_put HS.out x.f0⟩, ⟨?_⟩, ⟨?_⟩⟩
              · rw [HK.out, e1]
                simp only [timer_Sane.chk, hm, hs, Bool.not_false, Bool.true_and]
              · exact hb.out.grown hgrow1 hb.out.size (fun j hj => by cases hj; exact Nat.le_refl _)
      · have hlt' := eq_false hlt
        have e1 : x9 = l0.length := by omega
        subst e1
        have hz := HN.out
        have e2 : l0.drop (l0.length : Int).toNat = [] := by simp
        rw [e2] at HK
        rw [if_pos (by rw [HK.out]; rfl)] at hz
        have hr := Kd.C_below HR0.out HB.out
        go_wp2_with (first | (go_at_call 30; refine (timer_Nap_30.calls (l0.length + 2) A0 c0 l0 r _ hr HC0.out hz).mono ?_; rintro e w' ⟨rfl, hb⟩) | go_in)
        go_ret
        exact ⟨rfl, below_step HB.out hb⟩
  · simp at h


end Go.Proofs.Ytinngbfkefaiiaa.P
