import Derived.Test.YtekfjpnfhgbalaaL2
import Derived.Test.YtekfjpnfhgbalaaR
import Derived.Maps.AppendAt
import Derived.RangeFuncBox
namespace Go.Proofs.Ytekfjpnfhgbalaa.C
open Go.Proofs.YtekfjpnfhgbalaaX Go.RowKit Go.Shelf Go.Proofs.YtekfjpnfhgbalaaW.PrintWords Go.Proofs.YtekfjpnfhgbalaaW.PrintLast Go.Proofs.YtekfjpnfhgbalaaW.PrintMore
attribute [local go_sem] Oper.semAt_some
set_option linter.unusedVariables false
set_option linter.unusedSimpArgs false

theorem info9' : (Try.prog.info? 9).map (fun i => (i.zero, i.size, i.bytes)) = some (some (.string ⟨#[]⟩), 1, 16) := by kernel_rfl
theorem split_calls (s : ByteArray) (w : World) : Calls Try.prog 30 #[.string s] w fun e w' => e = .returned (.func (.func 32) #[] #[.pointer (some ⟨w.heap.size, 0, none⟩)]) ∧ w.alloc (.cells #[.string s] 9) = w' := by
  go_enter Try.func30, Try.ntmps30
  go_wp2
  go_ret
  exact ⟨rfl, rfl⟩
theorem clip_calls (A : Option Addr) (n c : Nat) (w : World) (hn : n ≤ c) (hc : c ≤ 9223372036854775807) : Calls Try.prog 31 #[.slice A n c] w fun e w' => e = .returned (.slice A n n) ∧ w = w' := by
  go_enter Try.func31, Try.ntmps31
  go_wp2
  go_ret
  exact ⟨rfl, rfl⟩

/-- What the loop keeps: the box holds the row of what has come. -/
structure Coll (w : World) (pre : List ByteArray) (W : World) : Prop where
  box : ∃ v, W.heap[w.heap.size]? = some (.cells #[v] 41 (0, 0)) ∧ W.ownsRow (w.heap.size + 2) 9 1 v pre.length (pw_strs pre)
  below : Below w.heap.size w W
  size : w.heap.size + 2 ≤ W.heap.size

theorem Coll.set {w W : World} {pre : List ByteArray} (h : Coll w pre W) (v : Value) : Coll w pre (W.setCell ⟨w.heap.size + 1, 0, none⟩ v) := by
  obtain ⟨⟨u, hb, ho⟩, hB, hs⟩ := h
  refine ⟨⟨u, ?_, ?_⟩, hB.setCell (p := ⟨w.heap.size + 1, 0, none⟩) (by simp) _, by simpa using hs⟩
  · exact blk_far hb (by simp) v
  · exact own_move ho (fun k hk => Below.heap_setCell W _ v k (by have := own_base ho k hk; simp; omega))
theorem Coll.drewN {w W : World} {pre : List ByteArray} (h : Coll w pre W) (k : Nat) : Coll w pre (W.drewN k) := by
  obtain ⟨⟨u, hb, ho⟩, hB, hs⟩ := h
  exact ⟨⟨u, hb, own_move ho (fun _ _ => rfl)⟩, pw_below_drewN hB k, hs⟩
theorem Coll.put {w W : World} {pre : List ByteArray} (h : Coll w pre W) {l : Nat} {o : Obj} (o' : Obj) (hl : W.heap[l]? = some o) (hge : w.heap.size + 2 ≤ l) (ho : o.isCells = false) : Coll w pre (W.putObj l o') := by
  obtain ⟨⟨u, hb, hr⟩, hB, hs⟩ := h
  have hne : ∀ k, u.ownBlock = some k → k ≠ l := by
    rintro k hk rfl
    obtain ⟨cells, hc⟩ := own_typed hr k hk
    rw [hc] at hl; cases hl; simp [Obj.isCells] at ho
  refine ⟨⟨u, ?_, own_move hr (fun k hk => World.putObj_heap_other (hne k hk))⟩, ?_, by simpa using hs⟩
  · rw [World.putObj_heap_other (by omega)]; exact hb
  · exact hB.grown (grownBy_putObj' W l o') (by omega) (fun k e => by cases e; omega)
theorem Coll.made {w W : World} {pre : List ByteArray} (h : Coll w pre W) (o : Obj) : Coll w pre (W.alloc o) := by
  obtain ⟨⟨u, hb, hr⟩, hB, hs⟩ := h
  exact ⟨⟨u, blk_alloc hb o, hr.alloc o⟩, hB.alloc (by omega) o, by simp; omega⟩
theorem Coll.app {w W w1 : World} {pre : List ByteArray} {x : ByteArray} {v v' : Value} {o : Obj} (hb : W.heap[w.heap.size]? = some (.cells #[v] 41 (0, 0))) (hr : W.ownsRow (w.heap.size + 2) 9 1 v pre.length (pw_strs pre)) (hB : Below w.heap.size w W) (hs : w.heap.size + 2 ≤ W.heap.size)
    (hown : w1.ownsRow (w.heap.size + 2) 9 1 v' (pre.length + 1) (pw_strs pre ++ [.string x])) (hg : (W.alloc o).grownBy w1 v.ownBlock) :
    w1.heap[w.heap.size]? = some (.cells #[v] 41 (0, 0)) ∧ Coll w (pre ++ [x]) (w1.setCell ⟨w.heap.size, 0, none⟩ v') ∧ KeepsOthers W (w1.setCell ⟨w.heap.size, 0, none⟩ v') ∧ (w1.setCell ⟨w.heap.size, 0, none⟩ v').heap[w.heap.size + 1]? = W.heap[w.heap.size + 1]? := by
  have hne : ∀ k, k < w.heap.size + 2 → some k ≠ v.ownBlock := fun k hk e => by have := own_base hr k e.symm; omega
  have hb1 : w1.heap[w.heap.size]? = some (.cells #[v] 41 (0, 0)) := blk_grown (blk_alloc hb o) hg (hne _ (by omega))
  refine ⟨hb1, ⟨⟨v', blk_put hb1 0 v' rfl, ?_⟩, ?_, ?_⟩, ?_, ?_⟩
  · have := own_move hown (w1 := w1.setCell ⟨w.heap.size, 0, none⟩ v') (fun k hk => Below.heap_setCell w1 _ v' k (by have := own_base hown k hk; simp; omega))
    simpa [pw_strs] using this
  · refine Below.setCell (p := ⟨w.heap.size, 0, none⟩) ?_ (Nat.le_refl _) _
    exact (hB.alloc (by omega) o).grown hg (by simp; omega) (fun k hk => by have := own_base hr k hk; omega)
  · have := hg.size
    simp at this ⊢; omega
  · refine ((KeepsOthers.alloc W o).trans (KeepsOthers.of_grownBy hg fun j oj ej hj => ?_)).trans (KeepsOthers.setCell _ _ _)
    obtain ⟨cells, hc⟩ := own_typed (hr.alloc o) j ej
    rw [hc] at hj; cases hj; rfl
  · rw [Below.heap_setCell w1 _ v' _ (by simp)]
    have hlt : w.heap.size + 1 < W.heap.size := by omega
    rw [hg.block _ (by simp; omega) (hne _ (by omega))]
    exact Below.heap_alloc W o _ hlt

theorem linesB_pos (k : Nat) (s : ByteArray) : 1 ≤ (linesB k s).length := by
  cases k with
  | zero => simp [linesB]
  | succ k => simp only [linesB]; split <;> simp

set_option maxHeartbeats 4000000 in
theorem lines_in (s : ByteArray) (w : World) (hs : s.size ≤ 4294967280) :
    CallsIn Fence.wide 4 Try.prog 20 #[.string s] w fun e w' => ∃ A, e = .returned (.slice A (linesB s.size s).length (linesB s.size s).length) ∧ Kd.F Kd.string w' (fun k_ => w.heap.size ≤ k_) A (linesB s.size s).length (linesB s.size s) ∧ Below w.heap.size w w' := by
  refine callsIn_of_wp_marks Try.func20 rfl trivial ?_ rfl
  simp only [Try.ntmps20, List.size_toArray, List.length_cons, List.length_nil, Nat.reduceAdd, Nat.reduceSub, Array.replicate_succ, Array.replicate_zero, List.push_toArray, List.append_toArray, List.nil_append, List.cons_append]
  gi_wp2_with (refine ⟨trivial, ?_⟩; gi_at_call 30; refine (callsIn_wide (n := 3)).2 ((split_calls s _).mono ?_); rintro e w' ⟨rfl, rfl⟩)
  have e32 : ∀ args w, (callFunc 32 args).run Try.prog w = .ok (.enter 32 args) w := EntersV.of Try.func32 (by kernel_rfl) rfl
  obtain ⟨i0, hi, hz0, hz1, hz2⟩ := info_parts info9'
  refine wpIn_rangeFunc_D (α := ByteArray) rfl (by decide) (gf := 32) (lb := #[.pointer (some ⟨w.heap.size + 1, 0, none⟩)]) rfl trivial e32 (encs := fun x => #[.string x])
    (Ab := fun W W' => (∃ v, W' = W.setCell ⟨w.heap.size + 1, 0, none⟩ v) ∨ ∃ k, W' = W.drewN k) (Kp := fun W W' => W'.heap[w.heap.size + 1]? = W.heap[w.heap.size + 1]?)
    (Start := fun W => W.heap[w.heap.size + 1]? = some (.cells #[.string s] 9 (0, 0))) (xs := linesB s.size s) (N := s.size)
    (fun l J W hJ hY hS h0 => ?seq) ?ab (fun h k => k.trans h) (fun W l o o' hl _ _ => ?kb) (fun _ => rfl) (Coll w) (fun pre W W' h hab => ?ia) (fun pre W l o o' h hl ho hc => ?ir)
    (fun o o' => ?h0) (fun o o' => ?hs)
    (fun x => { tmps := #[.string s, undef, .slice none 0 0, .pointer (some ⟨w.heap.size, 0, none⟩), .string x, .string s, .func (.func 32) #[] #[.pointer (some ⟨w.heap.size + 1, 0, none⟩)], .string x, undef, undef, undef, undef, undef, undef], defers := [] })
    ?assign ?body ?done
  case seq =>
    exact split_in (4 - 1) (by decide) l (w.heap.size + 1) s (by omega) J (fun pre W v h => hJ pre W _ h (.inl ⟨v, rfl⟩)) (fun pre W k h => hJ pre W _ h (.inr ⟨k, rfl⟩)) hY W hS h0
  case ab =>
    rintro W W' k o (⟨v, rfl⟩ | ⟨m, rfl⟩) hk ho hc
    · exact (KeepsOthers.setCell W _ v).same k o ho hc
    · exact ho
  case kb => exact World.putObj_heap_other (by simp at hl; omega)
  case ia =>
    rcases hab with ⟨v, rfl⟩ | ⟨m, rfl⟩
    · exact h.set v
    · exact h.drewN m
  case ir => exact h.put o' ho (by simpa using hl) hc
  case h0 =>
    refine Coll.made (Coll.made ⟨⟨_, blk_alloc (blk_new w _) _, own_nil _ _ _ _⟩, ((Below.refl _ w).alloc (Nat.le_refl _) _).alloc (by simp) _, by simp⟩ o) o'
  case hs =>
    refine blk_alloc (blk_alloc ?_ o) o'
    have := blk_new (w.alloc (.cells #[.slice none 0 0] 41)) (.cells #[.string s] 9)
    rwa [World.size_alloc] at this
  case assign =>
    intro l x W K hK
    gi_wp2
    exact hK
  case body =>
    rintro l pre x W ⟨⟨v, hb, hr⟩, hB, hsz⟩ hlen
    have hc0 : W.cell? ⟨w.heap.size, 0, none⟩ = some v := (blk_cell hb 0).trans rfl
    have hf0 := blk_frozen hb 0
    gi_wp2_with (gi_at_builtin; refine wpListIn_append_own _ rfl _ _ 41 rfl (w.heap.size + 2) 9 i0 (.string ⟨#[]⟩) 1 16 Try.underlying41 hi hz0 hz1 hz2 rfl (by decide) _ _ _ rfl (hr.alloc _) ⟨W.heap.size, 0, none⟩ 1 1 [.string x] rfl rfl (cell_one_new _ _ _) (by simp [Value.oneCell']) (by unfold maxLen; omega) (by omega) (by simp; omega) ?_; intro v' w1 hown' hgrow _; obtain ⟨g', cap', rfl⟩ := ownsRow_succ hown'; obtain ⟨hv1, hc1, hk1, hq1⟩ := Coll.app hb hr hB hsz hown' hgrow; have hcv := (blk_cell hv1 0).trans rfl; have hfv := blk_frozen hv1 0)
    exact ⟨hk1.from _, hq1, hc1⟩
  case done =>
    rintro D W hD ⟨⟨v, hb, hr⟩, hB, hsz⟩ hK
    have hD' : w.heap.size + 2 ≤ D := by simpa using hD
    have hne : ∀ k, v.ownBlock = some k → k ≠ D := by
      rintro k hk rfl
      obtain ⟨cells, hc⟩ := own_typed hr k hk
      rw [hc] at hK; cases hK
    have hr2 := own_move hr (w1 := W.putObj D (.deferred none)) (fun k hk => World.putObj_heap_other (hne k hk))
    obtain ⟨L, hL⟩ : ∃ L, linesB s.size s = L := ⟨_, rfl⟩
    have HL := Aside0.mk hL
    have hL1 : 1 ≤ L.length := by rw [← hL]; exact linesB_pos _ _
    rw [hL] at hr hr2
    clear hL
    obtain ⟨A, c, rfl, hlc, _⟩ := Kd.R_reads (Kd.R_of_own (h1 := fun _ => rfl) (ok := fun _ => True) hr (fun _ _ => trivial) : Kd.R Kd.string 9 W (w.heap.size + 2) (fun _ => True) v L)
    have hC2 := Kd.F_mono (ok' := fun k_ => w.heap.size ≤ k_) (Kd.R_F (Kd.R_bound (Kd.R_of_own (h1 := fun _ => rfl) (ok := fun _ => True) hr2 (fun _ _ => trivial) : Kd.R Kd.string 9 (W.putObj D (.deferred none)) (w.heap.size + 2) (fun _ => True) _ L))) (fun k hk => by have := hk.2.1; omega)
    have HC2 := Aside0.mk hC2
    clear hC2
    have hcm : c ≤ 9223372036854775807 := by
      rcases hr.2 with ⟨h, _⟩ | ⟨g, cap, cur, h, _, _, _, hm, _⟩
      · injection h; omega
      · injection h with _ _ h; unfold maxLen at hm; omega
    clear hr hr2 hne
    have hc0 : W.cell? ⟨w.heap.size, 0, none⟩ = some (.slice A L.length c) := (blk_cell hb 0).trans rfl
    gi_wp2_with (refine ⟨trivial, ?_⟩; gi_at_call 31; refine (callsIn_wide (n := 3)).2 ((clip_calls A L.length c _ hlc hcm).mono ?_); rintro e w' ⟨rfl, rfl⟩)
    refine ⟨by simp, .inl ⟨_, _, rfl, run_takeDeferred hK, ?_⟩⟩
    refine ⟨_, results_tmp rfl _ _ _, A, ?_, ?_, ?_⟩
    · rw [HL.out]; rfl
    · rw [HL.out]; exact HC2.out
    · exact hB.grown (grownBy_putObj' W D _) (by omega) (fun k e => by cases e; omega)

/-- Lines, over the code: what it hands back is read. -/
theorem lines_calls (s : ByteArray) (w : World) (hs : s.size ≤ 4294967280) :
    Calls Try.prog 20 #[.string s] w fun e w' => ∃ A, e = .returned (.slice A (linesB s.size s).length (linesB s.size s).length) ∧ Kd.F Kd.string w' (fun k_ => w.heap.size ≤ k_) A (linesB s.size s).length (linesB s.size s) ∧ Below w.heap.size w w' :=
  callsIn_wide.1 (lines_in s w hs)
end Go.Proofs.Ytekfjpnfhgbalaa.C
