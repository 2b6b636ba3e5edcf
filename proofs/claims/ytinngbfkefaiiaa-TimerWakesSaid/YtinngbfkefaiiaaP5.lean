-- Written by a program of this session (xprint.py, asm.py).
import Derived.Test.YtinngbfkefaiiaaP0
import Derived.Test.YtinngbfkefaiiaaP1
import Derived.Test.YtinngbfkefaiiaaX
import Derived.Test.YtinngbfkefaiiaaS
import Derived.Test.YtinngbfkefaiiaaR
namespace Go.Proofs.Ytinngbfkefaiiaa.P
open Go.Proofs.YtinngbfkefaiiaaX Go.RowKit Go.Proofs.YtinngbfkefaiiaaW.PrintWords Go.Proofs.YtinngbfkefaiiaaW.PrintLast Go.Proofs.YtinngbfkefaiiaaW.PrintMore
attribute [local go_sem] max2_int min2_int max_two min_two max_three min_three max_four min_four   -- for this text's walks alone

set_option linter.unusedVariables false
set_option linter.unusedSimpArgs false

/-! ### timer_Nap_26: function 26 -/
def timer_Nap_26.f (l0 : List (S49)) : Option ((List (S49))) := (some (([] : List (S49)) : List (S49))).bind fun y121 => (if y121.length + l0.length < 8796093022208 then (some (y121 ++ l0)) else (none))
set_option maxHeartbeats 8000000 in
set_option maxRecDepth 100000 in
theorem timer_Nap_26.calls (A0 : Option Addr) (c0 : Nat) (l0 : List (S49)) (r : List (S49)) (w : World) (hr0 : Kd.C k49 w A0 l0.length l0) (hc0 : l0.length ≤ c0) (h : timer_Nap_26.f l0 = some r) :
    Calls Try.prog 26 #[.slice A0 l0.length c0] w fun e w' => ∃ v0_ : Value, e = .returned (v0_) ∧ Kd.R k49 49 w' w.heap.size (fun _ => True) v0_ r ∧ Below w.heap.size w w' := by
  cases A0 with
  | none =>
    have h0 : l0 = [] := by
      cases l0 with
      | nil => rfl
      | cons x l =>
        obtain ⟨ad, _, e, _⟩ := Kd.C_get hr0 z49 0 (Int.le_refl _) (by simp)
        cases e
    subst h0
    obtain rfl := Option.some.inj h
    refine (Try.slices_Clone_nil 0 c0 w).mono ?_
    rintro e w' ⟨rfl, rfl⟩
    exact ⟨_, rfl, Kd.R_nil _ _ _ _ _, Below.refl _ _⟩
  | some ad =>
  have q24 : ∀ (w : World) (a : Option Addr) (n c n' c' : Nat), (binOp .eql 24 (.slice a n c) (.slice none n' c')).run Try.prog w = .ok (.bool a.isNone) w := fun w a n c n' c' => Lib.run_eql_slice_nil w _ _ a n c n' c' Try.underlying24
  have HR0 := Aside0.mk hr0
  have HC0 := Aside0.mk hc0
  clear hr0 hc0
  have HB := Aside0.mk (Below.refl w.heap.size w)
  have H : ((some (([] : List (S49)) : List (S49))).bind fun y121 => (if y121.length + l0.length < 8796093022208 then (some (y121 ++ l0)) else (none))) = some r := h
  clear h
  obtain ⟨y121, hy121⟩ : ∃ y_ : List (S49), y_ = (([] : List (S49))) := ⟨_, rfl⟩
  replace H : (if y121.length + l0.length < 8796093022208 then (some (y121 ++ l0)) else (none)) = some r := by first | (rw [hy121]; with_reducible exact H) | (have H2_ := (Option.bind_some _ _).symm.trans H; rw [hy121]; with_reducible exact H2_) | (have H2_ := (Option.bind_some _ _).symm.trans H; with_reducible exact H2_) | with_reducible exact H | (rw [hy121]; exact H) | exact H
  have Ny121 := Aside0.mk hy121
  clear hy121
  by_cases c2 : y121.length + l0.length < 8796093022208
  · rw [if_pos c2] at H
    have LMc2 := Aside0.mk c2
    clear c2
    obtain ⟨y124, hy124⟩ : ∃ y_ : List (S49), y_ = (y121 ++ l0) := ⟨_, rfl⟩
    replace H : (some y124) = some r := by first | (rw [hy124]; with_reducible exact H) | (have H2_ := (Option.bind_some _ _).symm.trans H; rw [hy124]; with_reducible exact H2_) | (have H2_ := (Option.bind_some _ _).symm.trans H; with_reducible exact H2_) | with_reducible exact H | (rw [hy124]; exact H) | exact H
    have Ny124 := Aside0.mk hy124
    clear hy124
    obtain rfl := Option.some.inj H
    go_enter Try.func26, Try.ntmps26
    go_wp2_with (first | ((with_reducible refine gate_dst (N := 5) rfl ?_); refine Kd.R_lit k49 _ 49 ?hg (N := 5) ?hd (xs := ([] : List (S49))) (inner := []) (ok := fun _ => True) (okp := fun _ => True) ?hr ?hp (fun _ hk => hk) trivial (Below.refl _ _) (Nat.le_refl _) (by simp) ?_; (case hd => rfl); (case hg => rfl); (case hr => first | (go_simp; done) | (go_simp; rfl)); (case hp => exact (Reps.none _ _)); intro v122 w3 ho4 hb hg_ hnew_; clear hg_ hnew_; (first | rw [← Ny121.out] at ho4 | (simp only [Int.reduceToNat] at ho4; rw [← Ny121.out] at ho4)); have n0_ := Aside0.mk (Kd.R_lower ho4 (below_size (by repeat (first | (with_reducible first | exact HB.out | apply below_alloc | apply pw_below_drewN | apply below_drew1) | exact HB.out)))); have n1_ := Aside0.mk (below_step (by repeat (first | (with_reducible first | exact HB.out | apply below_alloc | apply pw_below_drewN | apply below_drew1) | exact HB.out)) hb); clear HB; have HO123 := n0_; have HB := n1_; clear n0_ n1_; clear hb ho4) | ((with_reducible refine gate_builtin (b := .append) (xs := #[.tmp 5, .tmp 6]) rfl ?_); at_builtin; refine Kd.R_append_rows k49 (w0 := w) w.heap.size rfl (.tmp 5) (.tmp 6) 24 49 (.agg #[(.int .i64 0), (.int .i64 0)]) 16 rfl Try.underlying24 info49 rfl (by decide) (by omega) v122 y121 l0 _ _ _ (fun _ => True) (fun _ => False) rfl rfl ?aO ?aR (fun _ _ h => h) (fun _ h => h.elim) ?aF ?aB ?aS ?aL ?_; (case aR => repeat (first | exact (Kd.C_below HR0.out HB.out) | (with_reducible refine Kd.C_alloc ?_ _) | (with_reducible refine Kd.C_drewN ?_ _) | (with_reducible refine Kd.C_drew ?_))); (case aB => exact (by repeat (first | (with_reducible first | exact HB.out | apply below_alloc | apply pw_below_drewN | apply below_drew1) | exact HB.out))); (case aF => exact (fun _ _ => trivial)); (case aO => exact (by (with_reducible repeat (first | apply Kd.R_alloc | apply Kd.R_drewN | apply Kd.R_drew)); exact HO123.out)); (case aS => exact (below_size (by repeat (first | (with_reducible first | exact HB.out | apply below_alloc | apply pw_below_drewN | apply below_drew1) | exact HB.out)))); (case aL => have := LMc2.out; omega); intro v125 w5 ho hb hg hat; rw [← Ny124.out] at ho; have n0_ := Aside0.mk (hb); have n1_ := Aside0.mk (ho); clear HB; clear HO123; have HB := n0_; have HO126 := n1_; clear n0_ n1_; clear ho hb hg hat))
    go_ret
    exact ⟨_, by first | rfl | (simp [errW_none, errW_some] <;> rfl) | (simp [*, errW_none, errW_some] <;> rfl), by (with_reducible repeat (first | apply Kd.R_alloc | apply Kd.R_drewN | apply Kd.R_drew)); exact HO126.out, by repeat (first | (with_reducible first | exact HB.out | apply below_alloc | apply pw_below_drewN | apply below_drew1) | exact HB.out)⟩
  · rw [if_neg c2] at H
    exact absurd H (by simp)


/-! ### the sort: slices.SortStableFunc(l, byWake), fewer than 20 -/
section
open Go.Lib Go.Shelf Go.Proofs Go.Sort
def enc49 (x : S49) : List Value := [.int .i64 x.f0, .int .i64 x.f1]
instance : Inhabited S49 := ⟨z49⟩
def cfW (x y : S49) : Int := Lib.compareInt x.f1 y.f1
theorem byWake_world (x y : S49) (w : World) : Calls Try.prog 28 (#[.agg (enc49 x).toArray, .agg (enc49 y).toArray] ++ #[]) w fun e w' => e = .returned (.int .i64 (cfW x y)) ∧ ∃ q os', w' = Go.Sort.grow (w.drewN q) os' := by
  have hc := fun W => Try.cmp_Compare_int x.f1 y.f1 W
  show Calls Try.prog 28 #[.agg #[.int .i64 x.f0, .int .i64 x.f1], .agg #[.int .i64 y.f0, .int .i64 y.f1]] w _
  go_enter Try.func28, Try.ntmps28
  go_wp2_with (first | (go_at_call 38; refine (hc _).mono ?_; rintro e w' ⟨rfl, rfl⟩) | go_in)
  go_ret
  refine ⟨rfl, 0, #[Obj.cells #[.int .i64 x.f0, .int .i64 x.f1] 49, Obj.cells #[.int .i64 y.f0, .int .i64 y.f1] 49], ?_⟩
  rw [Go.Sort.alloc_eq_grow w, Go.Sort.alloc_eq_grow (Go.Sort.grow _ _), Go.Sort.grow_grow]
  rfl
theorem isAgg49 (w : World) : (isAgg 49).run Try.prog w = .ok true w := by kernel_rfl
theorem sizeOf49 (w : World) : (Go.sizeOf 49).run Try.prog w = .ok 2 w := by kernel_rfl
theorem stable_calls (blk off cap : Nat) (d : Array S49) (w : World) (hs : d.size < 20) (hH : HoldsK enc49 2 w blk off d) (hblk : blk < w.heap.size) :
    Calls Try.prog 37 #[.slice (some ⟨blk, off, none⟩) d.size cap, .int .i64 d.size, .func (.func 28) #[] #[]] w fun e w' => e = .returned (.tuple #[]) ∧ ∃ n os, w' = sortWorldK enc49 2 w blk off n (Go.Sort.insertionSort (ltOf cfW) d 0 d.size) os := by
  have hcall := fun (hab : 0 ≤ d.size) => Try.insertionSortCmpFunc 2 isAgg49 sizeOf49 enc49 (fun _ => rfl) (by intro x v hv; simp [enc49] at hv; rcases hv with rfl | rfl <;> rfl) cfW 28 #[] blk off cap 0 d.size d w (fun args w => enters28 args w) (fun m os dk _ x y => byWake_world x y _) hH hblk hab (Nat.le_refl _) (by omega)
  replace hcall := hcall (Nat.zero_le _)
  rw [show ((0 : Nat) : Int) = 0 from rfl] at hcall
  have h1 : ¬ (20 : Int) ≤ (d.size : Int) := by omega
  have h1' := eq_false h1
  have h2 : ¬ (20 : Int) < (d.size : Int) := by omega
  have h2' := eq_false h2
  clear hH
  go_enter Try.func37, Try.ntmps37
  go_wp2
  refine wp_loop_rounds 1 ?_
  rw [rounds_succ]
  go_wp2_with (first | (go_at_call 40; refine hcall.mono ?_; rintro e w' ⟨rfl, hb⟩) | go_in)
  refine wp_loop_rounds 1 ?_
  rw [rounds_succ]
  go_wp2
  (try simp only [Exit.inBlock, Exit.then]); refine bodyPost_end (results_none rfl _ _ _) rfl ?_
  exact ⟨rfl, hb⟩
theorem sort_calls (blk off cap : Nat) (d : Array S49) (w : World) (hs : d.size < 20) (hH : HoldsK enc49 2 w blk off d) (hblk : blk < w.heap.size) :
    Calls Try.prog 27 #[.slice (some ⟨blk, off, none⟩) d.size cap, .func (.func 28) #[] #[]] w fun e w' => e = .returned (.tuple #[]) ∧ ∃ n os, w' = sortWorldK enc49 2 w blk off n (Go.Sort.insertionSort (ltOf cfW) d 0 d.size) os := by
  have hcall := stable_calls blk off cap d w hs hH hblk
  clear hH
  go_enter Try.func27, Try.ntmps27
  go_wp2_with (first | (go_at_call 37; refine hcall.mono ?_; rintro e w' ⟨rfl, hb⟩) | go_in)
  (try simp only [Exit.inBlock, Exit.then]); refine bodyPost_end (results_none rfl _ _ _) rfl ?_
  exact ⟨rfl, hb⟩
end
section
open Go.Lib Go.Shelf Go.Proofs Go.Sort
theorem size_insInner (lt : S49 → S49 → Bool) (a : Nat) : ∀ (j : Nat) (d : Array S49), (insInner lt a j d).size = d.size
  | 0, _ => rfl
  | j + 1, d => by
    unfold insInner
    split
    · rw [size_insInner lt a j, size_swp]
    · rfl
theorem size_insOuter (lt : S49 → S49 → Bool) (a b : Nat) : ∀ (n i : Nat) (d : Array S49), b - i = n → (insOuter lt a b i d).size = d.size := by
  intro n
  induction n with
  | zero =>
    intro i d h
    unfold insOuter
    rw [if_neg (by omega)]
  | succ n ih =>
    intro i d h
    unfold insOuter
    rw [if_pos (by omega), ih (i + 1) _ (by omega), size_insInner]
/-- The list, sorted by when they wake: what the library's insertion sort leaves. -/
def sortL (xs : List S49) : List S49 := (insertionSort (ltOf cfW) xs.toArray 0 xs.length).toList
theorem sortL_length (xs : List S49) : (sortL xs).length = xs.length := by
  unfold sortL insertionSort
  rw [Array.length_toList, size_insOuter _ _ _ _ _ _ rfl]
  simp
theorem below_sort {w W : World} (hB : Below w.heap.size w W) {blk : Nat} (hge : w.heap.size ≤ blk) (n : Nat) (dk : Array S49) (os : Array Obj) : Below w.heap.size w (sortWorldK enc49 2 W blk 0 n dk os) := by
  refine ⟨hB.os, hB.tape, hB.output, Nat.le_trans hB.size (size_sortWorldK_c enc49 2 W blk 0 n dk os), fun k hk => ?_⟩
  have hkW := Nat.lt_of_lt_of_le hk hB.size
  show ((W.heap.modify blk _) ++ os)[k]? = _
  rw [Array.getElem?_append_left (by simpa using hkW), Array.getElem?_modify, if_neg (by omega)]
  exact hB.block k hk
theorem sortR_calls (w W : World) (ok : Nat → Prop) (A : Option Addr) (c : Nat) (xs : List S49) (hne : xs ≠ []) (hs : xs.length < 20) (hR : Kd.R k49 49 W w.heap.size ok (.slice A xs.length c) xs) (hB : Below w.heap.size w W) :
    Calls Try.prog 27 #[.slice A xs.length c, .func (.func 28) #[] #[]] W fun e w' => e = .returned (.tuple #[]) ∧ Kd.V k49 49 w' w.heap.size (fun k_ => w.heap.size ≤ k_) (.slice A (sortL xs).length c) (sortL xs) ∧ Below w.heap.size w w' := by
  have hread := (Kd.R_reads' hR).2.2
  have hcap := (Kd.R_reads' hR).2.1
  obtain ⟨_, inner, ho, _⟩ := hR
  obtain ⟨_, ho⟩ := ho
  rcases ho with ⟨hv, _⟩ | ⟨g, cap, cur, hv, hg, hh, _⟩
  · injection hv with h1 h2 h3
    exact absurd (List.length_eq_zero_iff.1 h2) hne
  · injection hv with h1 h2 h3
    subst h1 h3
    have hlt := blk_lt hh
    have hsz : xs.toArray.size = xs.length := rfl
    have hcell : ∀ j, j < xs.length → ∀ i u, (enc49 (xs.toArray[j]!))[i]? = some u → W.cell? ⟨g, 0 + (j * 2 + i), none⟩ = some u := by
      intro j hj i u hu
      obtain ⟨ad, e, hc0, hc1⟩ := at_T49 hread (j : Int) (by omega) (by omega)
      have e := Option.some.inj e
      subst e
      have ej : xs.toArray[j]! = rd_T49 xs (j : Int) := by
        unfold rd_T49
        simp [List.getD, hj]
      rw [ej] at hu
      rw [Int.toNat_natCast] at hc0 hc1
      match i, hu with
      | 0, hu =>
        have hu : some (Value.int .i64 (rd_T49 xs (j : Int)).f0) = some u := hu
        rw [← hu]
        simpa [Addr.add_lit, Nat.add_assoc] using hc0
      | 1, hu =>
        have hu : some (Value.int .i64 (rd_T49 xs (j : Int)).f1) = some u := hu
        rw [← hu]
        simpa [Addr.add_lit, Nat.add_assoc] using hc1
      | i + 2, hu => exact absurd hu (by simp [enc49])
    have hH : HoldsK enc49 2 W g 0 xs.toArray := by
      intro t ht
      rw [size_flatK] at ht
      rw [get_flatK _ _ _ _ ht]
      have h2 : t % 2 < 2 := Nat.mod_lt _ (by omega)
      have hj : t / 2 < xs.length := by rw [hsz] at ht; omega
      refine ⟨?_, blk_frozen hh _⟩
      have := hcell (t / 2) hj (t % 2) ((enc49 (xs.toArray[t / 2]!))[t % 2]!) (by
        rw [List.getElem!_eq_getElem?_getD, List.getElem?_eq_getElem (by show t % 2 < 2; exact h2)]
        rfl)
      rw [show 0 + t = 0 + (t / 2 * 2 + t % 2) by omega]
      exact this
    have hDs : (insertionSort (ltOf cfW) xs.toArray 0 xs.toArray.size).size = xs.toArray.size := size_insOuter _ _ _ _ _ _ rfl
    refine (sort_calls g 0 c xs.toArray W hs hH hlt).mono ?_
    rintro e w' ⟨he, n, os, rfl⟩
    have hH' := holdsK_sortWorldK_c enc49 2 W g 0 xs.toArray _ n os hH hlt hDs
    have hlt' := Nat.lt_of_lt_of_le hlt (size_sortWorldK_c enc49 2 W g 0 n (insertionSort (ltOf cfW) xs.toArray 0 xs.toArray.size) os)
    have hb' := below_sort hB hg n (insertionSort (ltOf cfW) xs.toArray 0 xs.toArray.size) os
    have hL := sortL_length xs
    have hsL : sortL xs = (insertionSort (ltOf cfW) xs.toArray 0 xs.toArray.size).toList := rfl
    generalize insertionSort (ltOf cfW) xs.toArray 0 xs.toArray.size = D at hH' hlt' hb' hDs hsL ⊢
    generalize sortWorldK enc49 2 W g 0 n D os = W2 at hH' hlt' hb' ⊢
    refine ⟨he, Kd.V_mk (by rw [hL]; exact hcap) ?_, hb'⟩
    intro W3 hW3
    have hg3 := hW3 g hg hlt'
    refine ⟨rfl, by rw [hL]; exact Nat.le_trans (Nat.le_of_lt hs) (by decide), fun _ => ⟨⟨g, 0, none⟩, rfl, fun j p hp => ⟨enc49 p, rfl, k49_mk W3 p, fun i u hu => ?_⟩⟩⟩
    have hi : i < 2 := by
      have := (List.getElem?_eq_some_iff.1 hu).1
      exact this
    rw [hsL] at hp
    have hj : j < D.size := by
      have := (List.getElem?_eq_some_iff.1 hp).1
      simpa using this
    have hc := (hH' (j * 2 + i) (by rw [size_flatK]; omega)).1
    rw [get_flatK _ _ _ _ (by omega), show (j * 2 + i) / 2 = j by omega, show (j * 2 + i) % 2 = i by omega] at hc
    have hp' : D[j]! = p := by
      rw [Array.getElem?_toList] at hp
      rw [getElem!_pos D j hj]
      rw [Array.getElem?_eq_getElem hj] at hp
      exact Option.some.inj hp
    rw [hp', List.getElem!_eq_getElem?_getD, hu] at hc
    rw [show k49.sz = 2 from rfl, Addr.add_lit]
    have : W3.cell? ⟨g, 0 + (j * 2 + i), none⟩ = W2.cell? ⟨g, 0 + (j * 2 + i), none⟩ := by
      unfold World.cell?
      rw [hg3]
    rw [this]
    exact hc
end

end Go.Proofs.Ytinngbfkefaiiaa.P
