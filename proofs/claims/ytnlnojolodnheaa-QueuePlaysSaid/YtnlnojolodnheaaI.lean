/-
  slices.Insert of one element, at the queue's items: what it leaves of a row of the call's own.
-/
import Derived.Test.YtnlnojolodnheaaD
namespace Go.Proofs.Ytnlnojolodnheaa.P
open Go.RowKit Go.Proofs.YtnlnojolodnheaaX Go.Proofs.YtnlnojolodnheaaW.PrintWords Go.Proofs.YtnlnojolodnheaaW.PrintLast Go.Proofs.YtnlnojolodnheaaW.PrintMore
set_option linter.unusedVariables false
set_option linter.unusedSimpArgs false
/-! ### copy -/
theorem run_copy_k {P : Program} (w : World) (dT sT ty elem : TypeId) (sz b o dLen dCap : Nat) (a : Addr) (sLen sCap : Nat) (cs : List Value)
    (hu : P.underlying dT = some (.slice elem)) (hs : (P.info? elem).map (·.size) = some sz) (hn : cs.length = Nat.min sLen dLen * sz)
    (hsrc : ∀ j v, cs[j]? = some v → w.cell? (a.add j) = some v) (hc : ∀ j, j < cs.length → (w.cell? ⟨b, o + j, none⟩).isSome = true) (hf : ∀ j, j < cs.length → w.frozen? ⟨b, o + j, none⟩ = false) (h1 : ∀ v ∈ cs, v.oneCell' = true) :
    (Builtin.copy_ #[dT, sT] ty #[.slice (some ⟨b, o, none⟩) dLen dCap, .slice (some a) sLen sCap]).run P w = .ok (goInt (Nat.min sLen dLen)) (w.setCells b o cs) := by
  have hl := run_loadCells_list (P := P) w a cs hsrc
  have hst := run_storeCells_cells (P := P) b o cs 0 w (by simpa using hc) (by simpa using hf) h1
  cases hq : P.info? elem with
  | none => simp [hq] at hs
  | some i =>
    have hi : i.size = sz := by simpa [hq] using hs
    simp [Builtin.copy_, run_underlying hu, Builtin.lenOf, Builtin.firstCells, sizeOf, typeInfo, hq, hi, ← hn, hl, hst]
theorem wp_copy_run {P : Program} (w : World) {o : Oper} {a : Act} {K : Act → World → Prop} {Q : Exit → Act → World → Prop} (d s : Operand) (t t' : TypeId)
    (ho : o.op = .call { callee := .builtin .copy, args := #[d, s], argTypes := #[t, t'] }) (v u : Value) (hd : a.eval d = v) (hs : a.eval s = u) {v' : Value} {w' : World}
    (hr : (Builtin.copy_ #[t, t'] o.type #[v, u]).run P w = .ok v' w') (h : K (a.put o.dst v') w') : o.wp P a w K Q := by
  unfold Oper.wp execOp
  simp only [ho, resolve, invoke, builtin, Sem.run_bind, Sem.run_pure, Result.andThen_ok, List.map_toArray, List.map_cons, List.map_nil, hd, hs, hr]
  exact h
theorem wpList_copy_run {P : Program} (w : World) {ops : Array Oper} {rest : List Oper} {o : Oper} {a : Act} {Q : Exit → Act → World → Prop} (hgd : o.guard = none) (d s : Operand) (t t' : TypeId)
    (ho : o.op = .call { callee := .builtin .copy, args := #[d, s], argTypes := #[t, t'] }) (v u : Value) (hd : a.eval d = v) (hs : a.eval s = u) {v' : Value} {w' : World}
    (hr : ∀ ty, (Builtin.copy_ #[t, t'] ty #[v, u]).run P w = .ok v' w') (h : wpList P ops Q rest (a.put o.dst v') w') : wpList P ops Q (o :: rest) a w :=
  wpList_plain hgd fun _ hK => wp_copy_run w d s t t' ho v u hd hs (hr _) (hK _ _ h)
theorem step_copy_run {P : Program} {ops : Array Oper} {o : Oper} {a : Act} {w : World} {K : Act → World → Prop} {Q : Exit → Act → World → Prop} {E : Prop}
    (hg : o.guard = none) (d x : Operand) (dT sT : TypeId) (hop : o.op = Op.call { callee := Callee.builtin Builtin.copy, args := #[d, x], argTypes := #[dT, sT] })
    (v u : Value) (hd : a.eval d = v) (hx : a.eval x = u) {v' : Value} {w' : World} (hr : ∀ ty, (Builtin.copy_ #[dT, sT] ty #[v, u]).run P w = .ok v' w') (hK : K (a.put o.dst v') w') :
    if Region.wanted o (yielded ops a.tmps) = true then Oper.wp P o a w K Q else E := by
  have hw : Region.wanted o (yielded ops a.tmps) = true := by simp [Region.wanted, hg]
  rw [if_pos hw]
  unfold Oper.wp
  simp [execOp, hop, resolve, invoke, builtin, hd, hx, hr, Result.andThen]
  exact hK
/-- What Insert leaves. -/
def ins (xs : List S60) (k : Nat) (x : S60) : List S60 := xs.take k ++ x :: xs.drop k
theorem flat_ins (xs : List S60) (k : Nat) (x : S60) : flat (ins xs k x) = (flat xs).take (k * 3) ++ cells60 x ++ (flat xs).drop (k * 3) := by
  rw [← flat_take, ← flat_drop, ins, flat_append, List.append_assoc]
  rfl
theorem cell_flat {W : World} {g : Nat} {cur : Array Value} {n : Nat} {xs : List S60} (hh : W.heap[g]? = some (.cells cur 60 (0, 0))) (ht : cur.toList.take (n * 3) = flat xs) (j : Nat) (v : Value) (hj : (flat xs)[j]? = some v) : W.cell? ⟨g, j, none⟩ = some v := by
  rw [blk_cell hh, ← Array.getElem?_toList]
  rw [← ht, List.getElem?_take] at hj
  split at hj
  · exact hj
  · cases hj
theorem take3 {l r : List Value} (h : l.take 3 = r) {j : Nat} {v : Value} (hj : r[j]? = some v) : l[j]? = some v := by
  rw [← h, List.getElem?_take] at hj
  split at hj
  · exact hj
  · cases hj
/-- The two copies, in place. -/
theorem shift_row {W : World} {g n c k : Nat} {cur : Array Value} {xs : List S60} {x : S60} (hh : W.heap[g]? = some (.cells cur 60 (0, 0))) (hcs : cur.size = c * 3) (ht : cur.toList.take (n * 3) = flat xs) (hn : xs.length = n) (hk : k ≤ n) (hc : n + 1 ≤ c) :
    ∃ cur', ((W.setCells g ((k + 1) * 3) (flat (xs.drop k))).setCells g (k * 3) (cells60 x)).heap[g]? = some (.cells cur' 60 (0, 0)) ∧ cur'.size = c * 3 ∧ cur'.toList.take ((n + 1) * 3) = flat (ins xs k x) := by
  have hl1 : (flat (xs.drop k)).length = (n - k) * 3 := by rw [flat_len, List.length_drop, hn]
  have hl2 : (cells60 x).length = 3 := rfl
  obtain ⟨c1, g1, g2, g3⟩ := setCells_row (flat (xs.drop k)) ((k + 1) * 3) W cur hh (by omega)
  obtain ⟨c2, f1, f2, f3⟩ := setCells_row (cells60 x) (k * 3) _ c1 g1 (by rw [hl2]; omega)
  refine ⟨c2, f1, by omega, ?_⟩
  have hcl : cur.toList.length = c * 3 := by rw [Array.length_toList, hcs]
  rw [f3, g3, hl2, flat_ins, ← flat_drop]
  have a1 : (cur.toList.take ((k + 1) * 3) ++ flat (xs.drop k) ++ cur.toList.drop ((k + 1) * 3 + (flat (xs.drop k)).length)).take (k * 3) = (flat xs).take (k * 3) := by
    rw [List.append_assoc, List.take_append_of_le_length (by rw [List.length_take]; omega), List.take_take, ← ht, List.take_take]
    congr 1
    omega
  have a2 : (cur.toList.take ((k + 1) * 3) ++ flat (xs.drop k) ++ cur.toList.drop ((k + 1) * 3 + (flat (xs.drop k)).length)).drop (k * 3 + 3) = flat (xs.drop k) ++ cur.toList.drop ((k + 1) * 3 + (flat (xs.drop k)).length) := by
    rw [List.append_assoc, show k * 3 + 3 = (cur.toList.take ((k + 1) * 3)).length by rw [List.length_take]; omega, List.drop_left]
  rw [a1, a2, ← List.append_assoc]
  refine List.take_left' ?_
  rw [List.length_append, List.length_append, hl1, hl2, List.length_take, flat_len, hn]
  omega
theorem size60 : (Try.prog.info? 60).map (·.size) = some 3 := by kernel_rfl
theorem sizeOf60 (w : World) : (Go.sizeOf 60).run Try.prog w = .ok 3 w := by kernel_rfl
theorem setCells_below {B : Nat} {w0 w : World} (h : Below B w0 w) {g : Nat} (hg : B ≤ g) (o : Nat) (vs : List Value) : Below B w0 (w.setCells g o vs) := by
  obtain ⟨s1, s2, s3, s4⟩ := setCells_same g vs o w
  exact h.trans ⟨s1, s2, s3, Nat.le_of_eq s4.symm, fun k hk => setCells_far _ _ k (by omega)⟩
set_option maxHeartbeats 4000000 in
set_option maxRecDepth 100000 in
theorem insert_room {w0 W : World} {base : Nat} {ok : Nat → Prop} (g c n k vb vc : Nat) (xs : List S60) (x : S60) (HR : Kd.R k60 60 W base ok (.slice (some ⟨g, 0, none⟩) n c) xs) (hk : k < n) (hc : n + 1 ≤ c) (HB : Below base w0 W) (hne : vb ≠ g) {cv : Array Value} (hcv : cv.toList.take 3 = cells60 x) (hv : W.heap[vb]? = some (.cells cv 60 (0, 0))) :
    Calls Try.prog 31 #[.slice (some ⟨g, 0, none⟩) n c, .int .i64 k, .slice (some ⟨vb, 0, none⟩) 1 vc] W fun e w' => ∃ v', e = .returned v' ∧ Kd.R k60 60 w' base ok v' (ins xs k x) ∧ Below base w0 w' ∧ W.grownBy w' (some g) ∧ (v'.ownBlock = some g ∨ ∃ b, v'.ownBlock = some b ∧ W.heap.size ≤ b) := by
  obtain ⟨h1, h2, h3, h4, h5, cur, hh, hcs, ht⟩ := R_blk HR
  have h5' := h5
  unfold maxLen at h5
  have hov : ∀ lb cb, (callFunc 42 #[.slice (some ⟨vb, 0, none⟩) 1 vc, .slice (some ⟨g, (k + 1) * 3, none⟩) lb cb]).run Try.prog W = .ok (.value (.bool false)) W := fun lb cb => by
    rw [run_callFunc_extern Try.func42 (by kernel_rfl) (by kernel_rfl) (by kernel_rfl) (e := Extern.SlicesOverlaps.overlaps #[27, 27] #[4]) (by kernel_rfl),
      Lib.run_overlaps_apart W 27 4 60 Try.underlying27 3 sizeOf60 ⟨vb, 0, none⟩ ⟨g, (k + 1) * 3, none⟩ 1 vc lb cb hne 60 60 cv.size (c * 3) (by simp [World.shape?, hv]) (by simp [World.shape?, hh, hcs]) (by omega) (blk_frozen hv _) (blk_frozen hv _)]
    rfl
  have hdl : (flat (xs.drop k)).length = (n - k) * 3 := by rw [flat_len, List.length_drop, h3]
  have hcp1 : ∀ dc sc ty, (Builtin.copy_ #[27, 27] ty #[.slice (some ⟨g, (k + 1) * 3, none⟩) (n + 1 - (k + 1)) dc, .slice (some ⟨g, k * 3, none⟩) (n + 1 - k) sc]).run Try.prog W.drew = .ok (goInt (Nat.min (n + 1 - k) (n + 1 - (k + 1)))) (W.drew.setCells g ((k + 1) * 3) (flat (xs.drop k))) := fun dc sc ty =>
    run_copy_k W.drew _ _ ty 60 3 g ((k + 1) * 3) _ dc ⟨g, k * 3, none⟩ _ sc (flat (xs.drop k)) Try.underlying27 size60 (by rw [hdl]; congr 1; simp only [Nat.min_def]; split <;> omega)
      (fun j v hj => by
        rw [flat_drop, List.getElem?_drop] at hj
        rw [Addr.add_lit]
        exact cell_flat (W := W) hh (h3 ▸ ht) _ _ hj)
      (fun j hj => by
        show (W.cell? _).isSome = true
        rw [blk_cell hh]
        rw [hdl] at hj
        simp
        omega) (fun j _ => blk_frozen (w := W) hh _) (flat_one _)
  obtain ⟨W1, hW1⟩ : ∃ W1, W1 = W.drew.setCells g ((k + 1) * 3) (flat (xs.drop k)) := ⟨_, rfl⟩
  obtain ⟨c1, g1, g2, g3⟩ := setCells_row (flat (xs.drop k)) ((k + 1) * 3) W.drew cur hh (by omega)
  have hv1 : W1.heap[vb]? = some (.cells cv 60 (0, 0)) := by
    rw [hW1]
    exact (setCells_far _ _ vb hne).trans hv
  rw [← hW1] at g1
  have hcp2 : ∀ dc ty, (Builtin.copy_ #[27, 27] ty #[.slice (some ⟨g, k * 3, none⟩) (n + 1 - k) dc, .slice (some ⟨vb, 0, none⟩) 1 vc]).run Try.prog W1 = .ok (goInt (Nat.min 1 (n + 1 - k))) (W1.setCells g (k * 3) (cells60 x)) := fun dc ty =>
    run_copy_k W1 _ _ ty 60 3 g (k * 3) _ dc ⟨vb, 0, none⟩ _ vc (cells60 x) Try.underlying27 size60 (by simp only [Nat.min_def]; split <;> first | omega | rfl)
      (fun j v hj => by
        rw [Addr.add_lit, Nat.zero_add, blk_cell hv1, ← Array.getElem?_toList]
        exact take3 hcv hj)
      (fun j hj => by
        rw [blk_cell g1]
        have : j < 3 := hj
        simp
        omega) (fun j _ => blk_frozen g1 _) (fun v hv => by have := flat_one [x] v; simp only [flat, List.flatMap_cons, List.flatMap_nil, List.append_nil] at this; exact this hv)
  obtain ⟨cur', f1, f2, f3⟩ := shift_row (W := W.drew) (x := x) hh hcs (h3 ▸ ht) h3.symm (Nat.le_of_lt hk) hc
  have hF := Aside0.mk (show Kd.R k60 60 (W1.setCells g (k * 3) (cells60 x)) base ok (.slice (some ⟨g, 0, none⟩) (n + 1) c) (ins xs k x) from by
    rw [hW1]
    exact R_of_blk h1 h2 (by simp [ins]; omega) hc h5' f1 f2 f3)
  have hFB := Aside0.mk (show Below base w0 (W1.setCells g (k * 3) (cells60 x)) from by
    rw [hW1]
    exact setCells_below (setCells_below (below_drew HB) h2 _ _) h2 _ _)
  rw [← hW1] at hcp1
  have hFG := Aside0.mk (show W.grownBy (W1.setCells g (k * 3) (cells60 x)) (some g) from by
    rw [hW1]
    exact grown_drew (grown_trans (setCells_grown _ _ _ _) (setCells_grown _ _ _ _)))
  have HP1 := Aside0.mk hcp1
  have HP2 := Aside0.mk hcp2
  have q1 : ((k : Int) == (n : Int)) = false := beq_eq_false_iff_ne.2 (by omega)
  have q2 : (0 : Int) ≤ (k : Int) := by omega
  have q3 : (k : Int) ≤ (n : Int) := by omega
  have q4 : (n : Int) + 1 ≤ (c : Int) := by omega
  have q5 : ((k : Int) + 1).toNat = k + 1 := by omega
  have q6 : ((n : Int) + 1).toNat = n + 1 := by omega
  have q7 : (0 : Int) ≤ (n : Int) + 1 := by omega
  have q8 : (0 : Int) ≤ (k : Int) + 1 := by omega
  have q9 : (k : Int) + 1 ≤ (n : Int) + 1 := by omega
  have q10 : (k : Int) ≤ (n : Int) + 1 := by omega
  have q11 : (c = k + 1) = False := eq_false (by omega)
  have q12 : (c = k) = False := eq_false (by omega)
  have q13 : k ≤ n := by omega
  have q14 : decide ((n : Int) + 1 > (c : Int)) = false := decide_eq_false (by omega)
  have hw1 : IntKind.i64.wrap ((k : Int) + 1) = (k : Int) + 1 := by rw [IntKind.wrap_i64]; omega
  have hmix := hov
  clear hov hcp1 hcp2 hW1 f1 f2 f3 g1 g2 g3 hv1 hv hh hcs ht HR HB hdl h1 h2 h3 h5' hne
  go_enter Try.func31, Try.ntmps31
  go_wp2_with (simp only [hmix])
  go_region_law (refine step_copy_run rfl (.tmp 73) (.tmp 76) 27 27 rfl (.slice (some ⟨g, (k + 1) * 3, none⟩) (n + 1 - (k + 1)) (c - (k + 1))) (.slice (some ⟨g, k * 3, none⟩) (n + 1 - k) (c - k)) (by simp [Act.eval, Act.put]) (by simp [Act.eval, Act.put]) (HP1.out _ _) ?_)
  go_wp2_with (first | ((with_reducible refine gate_builtin (b := .copy) (xs := #[.tmp 80, .tmp 81]) rfl ?_); refine wpList_copy_run _ rfl (.tmp 80) (.tmp 81) 27 27 rfl _ _ rfl rfl (HP2.out _) ?_) | go_in)
  go_ret
  exact ⟨_, rfl, hF.out, hFB.out, hFG.out, .inl rfl⟩
/-- The two copies into a new row. -/
theorem new_row {W : World} {g n k : Nat} {cur : Array Value} {xs : List S60} {x : S60} {G : Nat} (hh : W.heap[g]? = some (.cells cur 60 (0, 0))) (hcs : cur.size = G * 3) (ht : cur.toList.take (k * 3) = flat (xs.take k)) (hn : xs.length = n) (hk : k ≤ n) (hc : n + 1 ≤ G) :
    ∃ cur', ((W.setCells g (k * 3) (cells60 x)).setCells g ((k + 1) * 3) (flat (xs.drop k))).heap[g]? = some (.cells cur' 60 (0, 0)) ∧ cur'.size = G * 3 ∧ cur'.toList.take ((n + 1) * 3) = flat (ins xs k x) := by
  have hl1 : (flat (xs.drop k)).length = (n - k) * 3 := by rw [flat_len, List.length_drop, hn]
  have hl2 : (cells60 x).length = 3 := rfl
  have hl3 : (flat (xs.take k)).length = k * 3 := by rw [flat_len, List.length_take, hn]; omega
  obtain ⟨c1, g1, g2, g3⟩ := setCells_row (cells60 x) (k * 3) W cur hh (by rw [hl2]; omega)
  obtain ⟨c2, f1, f2, f3⟩ := setCells_row (flat (xs.drop k)) ((k + 1) * 3) _ c1 g1 (by omega)
  refine ⟨c2, f1, by omega, ?_⟩
  have hcl : cur.toList.length = G * 3 := by rw [Array.length_toList, hcs]
  have a1 : (cur.toList.take (k * 3) ++ cells60 x ++ cur.toList.drop (k * 3 + (cells60 x).length)).take ((k + 1) * 3) = flat (xs.take k) ++ cells60 x := by
    rw [ht, show (k + 1) * 3 = (flat (xs.take k) ++ cells60 x).length by rw [List.length_append, hl3, hl2]; omega, List.take_left]
  have e : flat (ins xs k x) = flat (xs.take k) ++ cells60 x ++ flat (xs.drop k) := by rw [ins, flat_append, List.append_assoc]; rfl
  rw [f3, g3, a1, e]
  refine List.take_left' ?_
  rw [List.length_append, List.length_append, hl1, hl2, hl3]
  omega
theorem zero_size (n : Nat) : (Builtin.zeroCells (Value.agg #[.int .i64 0, .int .i64 0, .int .i64 0]).cells n).size = n * 3 := by simp [Builtin.zeroCells, Value.cells]
set_option maxHeartbeats 4000000 in
set_option maxRecDepth 100000 in
theorem insert_grow {w0 W : World} {base : Nat} {ok : Nat → Prop} (g c n k vb vc : Nat) (xs : List S60) (x : S60) (HR : Kd.R k60 60 W base ok (.slice (some ⟨g, 0, none⟩) n c) xs) (hk : k < n) (hc : c < n + 1) (hbig : n ≤ 1000000) (HB : Below base w0 W) (hbase : base ≤ W.heap.size) (hok : ok W.heap.size) {cv : Array Value} (hcv : cv.toList.take 3 = cells60 x) (hv : W.heap[vb]? = some (.cells cv 60 (0, 0))) :
    Calls Try.prog 31 #[.slice (some ⟨g, 0, none⟩) n c, .int .i64 k, .slice (some ⟨vb, 0, none⟩) 1 vc] W fun e w' => ∃ v', e = .returned v' ∧ Kd.R k60 60 w' base ok v' (ins xs k x) ∧ Below base w0 w' ∧ W.grownBy w' (some g) ∧ (v'.ownBlock = some g ∨ ∃ b, v'.ownBlock = some b ∧ W.heap.size ≤ b) := by
  obtain ⟨h1, h2, h3, h4, h5, cur, hh, hcs, ht⟩ := R_blk HR
  obtain ⟨i0, hi0, hz0, hzs, hzb⟩ := info_parts info60
  have hgW := blk_lt hh
  have hvW := blk_lt hv
  have hold : (Builtin.firstCells i0.size k (.slice (some ⟨g, 0, none⟩) k c)).run Try.prog W.drew = .ok (flat (xs.take k)).toArray W.drew := by
    rw [hzs]
    exact run_firstCells_some W.drew 3 k ⟨g, 0, none⟩ k c (flat (xs.take k)) (by rw [flat_len, List.length_take]; omega) (fun j v hj => by
      rw [Addr.add_lit, Nat.zero_add]
      rw [flat_take, List.getElem?_take] at hj
      split at hj
      · exact cell_flat (W := W) hh (h3 ▸ ht) _ _ hj
      · cases hj)
  have hik : k + (n + 1 - k) = n + 1 := by omega
  obtain ⟨G, hG⟩ : ∃ G, G = grownCap W (n + 1) c 60 := ⟨_, rfl⟩
  obtain ⟨ROW, hROW⟩ : ∃ ROW : Array Value, ROW = (flat (xs.take k)).toArray ++ Builtin.zeroCells (Value.agg #[.int .i64 0, .int .i64 0, .int .i64 0]).cells (n + 1 - k) ++ Builtin.zeroCells (Value.agg #[.int .i64 0, .int .i64 0, .int .i64 0]).cells (G - (n + 1)) := ⟨_, rfl⟩
  have hGn : n + 1 ≤ G := by rw [hG]; exact grownCap_ge W _ _ _
  have hG63 : G ≤ maxLen := by rw [hG]; exact grownCap_le_maxLen W (n + 1) c 60 (by unfold maxLen; omega)
  have hrz : ∀ ty, (Builtin.append_ #[27, 3] ty #[.slice (some ⟨g, 0, none⟩) k c, .int .i64 ((n : Int) + 1 - (k : Int))]).run Try.prog W =
      .ok (.slice (some ⟨W.heap.size, 0, none⟩) (n + 1) G) (W.drew.alloc (.cells ROW 60)) := fun ty => by
    have h := Lib.run_append_grow_zeros W 27 3 ty 60 i0 _ .i64 .i64 Try.underlying27 Try.underlying3 hi0 hz0 (some ⟨g, 0, none⟩) k c (flat (xs.take k)) hold (n + 1 - k) (by omega) (by omega) (by omega) (by omega) (by rw [hzb]; omega) (by rw [hzb, hik]; exact growslice_fits hc (by omega))
    rw [hik, ← hG, ← hROW] at h
    rw [show (n : Int) + 1 - (k : Int) = ((n + 1 - k : Nat) : Int) by omega]
    exact h
  have hRs : ROW.size = G * 3 := by
    rw [hROW, Array.size_append, Array.size_append, zero_size, zero_size, List.size_toArray, flat_len, List.length_take]
    omega
  have hRt : ROW.toList.take (k * 3) = flat (xs.take k) := by
    rw [hROW, Array.toList_append, Array.toList_append, List.append_assoc]
    refine List.take_left' ?_
    rw [flat_len, List.length_take]
    omega
  obtain ⟨W1, hW1⟩ : ∃ W1, W1 = W.drew.alloc (.cells ROW 60) := ⟨_, rfl⟩
  obtain ⟨N_, hN_⟩ : ∃ N_, W.heap.size = N_ := ⟨_, rfl⟩
  have hN : W1.heap[N_]? = some (.cells ROW 60 (0, 0)) := by rw [hW1, ← hN_]; exact blk_new W.drew _
  have hg1 : W1.heap[g]? = some (.cells cur 60 (0, 0)) := by rw [hW1]; exact (Below.heap_alloc W.drew _ g hgW).trans hh
  have hv1 : W1.heap[vb]? = some (.cells cv 60 (0, 0)) := by rw [hW1]; exact (Below.heap_alloc W.drew _ vb hvW).trans hv
  have hgN : g ≠ N_ := by omega
  have hvN : vb ≠ N_ := by omega
  rw [← hW1, hN_] at hrz
  have hcp1 : ∀ dc ty, (Builtin.copy_ #[27, 27] ty #[.slice (some ⟨N_, k * 3, none⟩) (n + 1 - k) dc, .slice (some ⟨vb, 0, none⟩) 1 vc]).run Try.prog W1 = .ok (goInt (Nat.min 1 (n + 1 - k))) (W1.setCells N_ (k * 3) (cells60 x)) := fun dc ty =>
    run_copy_k W1 _ _ ty 60 3 N_ (k * 3) _ dc ⟨vb, 0, none⟩ _ vc (cells60 x) Try.underlying27 size60 (by simp only [Nat.min_def]; split <;> first | omega | rfl)
      (fun j v hj => by
        rw [Addr.add_lit, Nat.zero_add, blk_cell hv1, ← Array.getElem?_toList]
        exact take3 hcv hj)
      (fun j hj => by
        rw [blk_cell hN]
        have : j < 3 := hj
        simp
        omega) (fun j _ => blk_frozen hN _) (fun v hv => by have := flat_one [x] v; simp only [flat, List.flatMap_cons, List.flatMap_nil, List.append_nil] at this; exact this hv)
  obtain ⟨c1, g1, g2, g3⟩ := setCells_row (cells60 x) (k * 3) W1 ROW hN (by rw [hRs]; have : (cells60 x).length = 3 := rfl; omega)
  obtain ⟨W2, hW2⟩ : ∃ W2, W2 = W1.setCells N_ (k * 3) (cells60 x) := ⟨_, rfl⟩
  rw [← hW2] at hcp1 g1
  have hg2 : W2.heap[g]? = some (.cells cur 60 (0, 0)) := by rw [hW2]; exact (setCells_far _ _ g hgN).trans hg1
  have hdl : (flat (xs.drop k)).length = (n - k) * 3 := by rw [flat_len, List.length_drop, h3]
  have hcp2 : ∀ dc sc ty, (Builtin.copy_ #[27, 27] ty #[.slice (some ⟨N_, (k + 1) * 3, none⟩) (n + 1 - (k + 1)) dc, .slice (some ⟨g, k * 3, none⟩) (n - k) sc]).run Try.prog W2.drew = .ok (goInt (Nat.min (n - k) (n + 1 - (k + 1)))) (W2.drew.setCells N_ ((k + 1) * 3) (flat (xs.drop k))) := fun dc sc ty =>
    run_copy_k W2.drew _ _ ty 60 3 N_ ((k + 1) * 3) _ dc ⟨g, k * 3, none⟩ _ sc (flat (xs.drop k)) Try.underlying27 size60 (by rw [hdl]; congr 1; simp only [Nat.min_def]; split <;> omega)
      (fun j v hj => by
        rw [flat_drop, List.getElem?_drop] at hj
        rw [Addr.add_lit]
        exact cell_flat (W := W2) hg2 (h3 ▸ ht) _ _ hj)
      (fun j hj => by
        show (W2.cell? _).isSome = true
        rw [blk_cell g1]
        rw [hdl] at hj
        simp
        omega) (fun j _ => blk_frozen (w := W2) g1 _) (flat_one _)
  have hdr : W2.drew = W1.drew.setCells N_ (k * 3) (cells60 x) := by
    rw [hW2]
    have : ∀ (vs : List Value) (o : Nat) (w : World), (w.setCells N_ o vs).drew = w.drew.setCells N_ o vs := by
      intro vs
      induction vs with
      | nil => intro o w; rfl
      | cons v r ih => intro o w; rw [World.setCells, World.setCells, ih]; rfl
    exact this _ _ _
  obtain ⟨cur', f1, f2, f3⟩ := new_row (W := W1.drew) (x := x) (xs := xs) (n := n) hN hRs hRt h3.symm (Nat.le_of_lt hk) hGn
  have hF := Aside0.mk (show Kd.R k60 60 (W2.drew.setCells N_ ((k + 1) * 3) (flat (xs.drop k))) base ok (.slice (some ⟨N_, 0, none⟩) (n + 1) G) (ins xs k x) from by
    rw [hdr]
    exact R_of_blk (hN_ ▸ hok) (by omega) (by simp [ins]; omega) hGn hG63 f1 f2 f3)
  have hFB := Aside0.mk (show Below base w0 (W2.drew.setCells N_ ((k + 1) * 3) (flat (xs.drop k))) from by
    refine setCells_below (below_drew ?_) (by omega) _ _
    rw [hW2, hW1]
    exact setCells_below ((below_drew HB).alloc hbase _) (by omega) _ _)
  have hFZ := Aside0.mk (show W.heap.size ≤ N_ by omega)
  have hFG := Aside0.mk (show W.grownBy (W2.drew.setCells N_ ((k + 1) * 3) (flat (xs.drop k))) (some g) from by
    have e0 : Below W.heap.size W (W2.drew.setCells N_ ((k + 1) * 3) (flat (xs.drop k))) := by
      refine setCells_below (below_drew ?_) hFZ.out _ _
      rw [hW2, hW1]
      exact setCells_below ((below_drew (Below.refl _ _)).alloc (Nat.le_refl _) _) hFZ.out _ _
    exact ⟨e0.os, e0.tape, e0.output, e0.size, fun k hk _ => e0.block k hk⟩)
  have HPA := Aside0.mk hrz
  have HP1 := Aside0.mk hcp1
  have HP2 := Aside0.mk hcp2
  unfold maxLen at hG63 h5
  have q1 : ((k : Int) == (n : Int)) = false := beq_eq_false_iff_ne.2 (by omega)
  have q2 : (0 : Int) ≤ (k : Int) := by omega
  have q3 : (k : Int) ≤ (n : Int) := by omega
  have q4 : (c : Int) < (n : Int) + 1 := by omega
  have q5 : ((k : Int) + 1).toNat = k + 1 := by omega
  have q7 : (0 : Int) ≤ (n : Int) + 1 := by omega
  have q8 : (0 : Int) ≤ (k : Int) + 1 := by omega
  have q9 : (k : Int) + 1 ≤ (n : Int) + 1 := by omega
  have q10 : (k : Int) ≤ (n : Int) + 1 := by omega
  have q11 : (G = k + 1) = False := eq_false (by omega)
  have q12 : (c = k) = False := eq_false (by omega)
  have q13 : k ≤ n := by omega
  have q14 : (G = k) = False := eq_false (by omega)
  have q15 : (n : Int) + 1 ≤ 2000000 := by omega
  have q16 : k ≤ c := by omega
  have hw1 : IntKind.i64.wrap ((k : Int) + 1) = (k : Int) + 1 := by rw [IntKind.wrap_i64]; omega
  clear hcp1 hcp2 hW1 hW2 f1 f2 f3 g1 g2 g3 hv1 hv hh hcs ht HR HB hdl h1 h2 h3 hrz hdr hg1 hg2 hN hRs hRt hROW hG hik hold hi0 hz0 hzs hzb hok hN_ hbase hgN hvN hgW hvW h4 hc hbig
  go_enter Try.func31, Try.ntmps31
  go_wp2_with (first
    | ((with_reducible refine gate_builtin (b := .append) (xs := #[.tmp 34, .tmp 39]) rfl ?_); refine Lib.wpList_append_run _ rfl (.tmp 34) (.tmp 39) 27 3 rfl _ _ rfl rfl _ _ (HPA.out _) ?_)
    | ((with_reducible refine gate_builtin (b := .copy) (xs := #[.tmp 43, .tmp 44]) rfl ?_); refine wpList_copy_run _ rfl (.tmp 43) (.tmp 44) 27 27 rfl _ _ rfl rfl (HP1.out _) ?_) | go_in)
  go_region_law (refine step_copy_run rfl (.tmp 50) (.tmp 53) 27 27 rfl (.slice (some ⟨N_, (k + 1) * 3, none⟩) (n + 1 - (k + 1)) (G - (k + 1))) (.slice (some ⟨g, k * 3, none⟩) (n - k) (c - k)) (by simp [Act.eval, Act.put]) (by simp [Act.eval, Act.put]) (HP2.out _ _) ?_)
  go_wp2
  go_ret
  exact ⟨_, rfl, hF.out, hFB.out, hFG.out, .inr ⟨_, rfl, hFZ.out⟩⟩
set_option maxHeartbeats 4000000 in
set_option maxRecDepth 100000 in
theorem insert_end {w0 W : World} {base : Nat} {ok : Nat → Prop} (v : Value) (n vb vc : Nat) (xs : List S60) (x : S60) (HR : Kd.R k60 60 W base ok v xs) (hn : xs.length = n) (hbig : n ≤ 1000000) (HB : Below base w0 W) (hbase : base ≤ W.heap.size) (hok : ∀ q, W.heap.size ≤ q → ok q) {cv : Array Value} (hcv : cv.toList.take 3 = cells60 x) (hv : W.heap[vb]? = some (.cells cv 60 (0, 0))) :
    Calls Try.prog 31 #[v, .int .i64 n, .slice (some ⟨vb, 0, none⟩) 1 vc] W fun e w' => ∃ v', e = .returned v' ∧ Kd.R k60 60 w' base ok v' (ins xs n x) ∧ Below base w0 w' ∧ W.grownBy w' v.ownBlock ∧ (v'.ownBlock = v.ownBlock ∨ ∃ b, v'.ownBlock = some b ∧ W.heap.size ≤ b) := by
  obtain ⟨A, c, rfl⟩ := Kd.R_slice HR
  obtain ⟨_, h4, _⟩ := Kd.R_reads' HR
  rw [hn] at h4 ⊢
  have hi : ins xs n x = xs ++ [x] := by rw [ins, List.take_of_length_le (by omega), List.drop_of_length_le (by omega)]
  rw [hi]
  have hX : ReadsRow (fun (p : S60) (cs : List Value) => cs = cells60 p) k60.sz W (some ⟨vb, 0, none⟩) 1 [x] := by
    refine ⟨rfl, by simp, fun _ => ⟨_, rfl, fun j p hj => ?_⟩⟩
    match j, hj with
    | 0, hj =>
      injection hj with hj
      subst hj
      refine ⟨cells60 x, rfl, rfl, fun i u hu => ?_⟩
      rw [Addr.add_lit]
      show W.cell? ⟨vb, 0 + (0 * 3 + i), none⟩ = some u
      rw [blk_cell hv, ← Array.getElem?_toList, show 0 + (0 * 3 + i) = i by omega]
      exact take3 hcv hu
    | j + 1, hj => exact absurd hj (by simp)
  have HA := Aside0.mk (hn ▸ HR)
  obtain ⟨RB, hRB⟩ : ∃ RB, (Value.slice A n c).ownBlock = RB := ⟨_, rfl⟩
  rw [hRB]
  have HRB := Aside0.mk hRB
  have HX := Aside0.mk hX
  have HBB := Aside0.mk HB
  have HZ := Aside0.mk hbase
  have HOK := Aside0.mk hok
  have HL := Aside0.mk (show (xs.length + 1) * 24 ≤ 140737488355328 by omega)
  have q2 : (0 : Int) ≤ (n : Int) := by omega
  have q3 : n ≤ c := h4
  have q4 : n ≤ 1000000 := hbig
  clear hRB HR hi hX hv HB hbase hok hn
  go_enter Try.func31, Try.ntmps31
  go_wp2_with (first
    | ((with_reducible refine gate_builtin (b := .append) (xs := #[.tmp 23, .tmp 24]) rfl ?_); at_builtin; refine Kd.R_append_rows k60 (w0 := w0) base rfl (.tmp 23) (.tmp 24) 27 60 (.agg #[(.int .i64 0), (.int .i64 0), (.int .i64 0)]) 24 rfl Try.underlying27 info60 rfl (by decide) (by omega) _ xs [x] _ _ _ ok (fun _ => False) rfl rfl HA.out HX.out (fun _ _ h => by subst h; exact k60_mkM _ _ _ _) (fun _ h => h.elim) HOK.out HBB.out HZ.out HL.out ?_; intro v1 w1 hR1 hB1 hG1 hA1; replace hR1 := Aside0.mk hR1; replace hB1 := Aside0.mk hB1; replace hG1 := Aside0.mk (show W.grownBy w1 RB from by rw [← HRB.out]; exact hG1); replace hA1 := Aside0.mk (show v1.ownBlock = RB ∨ ∃ b, v1.ownBlock = some b ∧ W.heap.size ≤ b from by rw [← HRB.out]; exact hA1)) | go_in)
  all_goals
    go_ret
    exact ⟨_, rfl, hR1.out, hB1.out, hG1.out, hA1.out⟩
/-- slices.Insert of one. -/
theorem insert_calls {w0 W : World} {base : Nat} {ok : Nat → Prop} (v : Value) (k vb vc : Nat) (xs : List S60) (x : S60) (HR : Kd.R k60 60 W base ok v xs) (hk : k ≤ xs.length) (hbig : xs.length ≤ 1000000) (HB : Below base w0 W) (hbase : base ≤ W.heap.size) (hok : ∀ q, W.heap.size ≤ q → ok q) (hne : some vb ≠ v.ownBlock) {cv : Array Value} (hcv : cv.toList.take 3 = cells60 x) (hv : W.heap[vb]? = some (.cells cv 60 (0, 0))) :
    Calls Try.prog 31 #[v, .int .i64 k, .slice (some ⟨vb, 0, none⟩) 1 vc] W fun e w' => ∃ v', e = .returned v' ∧ Kd.R k60 60 w' base ok v' (ins xs k x) ∧ Below base w0 w' ∧ W.grownBy w' v.ownBlock ∧ (v'.ownBlock = v.ownBlock ∨ ∃ b, v'.ownBlock = some b ∧ W.heap.size ≤ b) := by
  by_cases he : k = xs.length
  · subst he
    exact insert_end v _ vb vc xs x HR rfl hbig HB hbase hok hcv hv
  · have hlt : k < xs.length := by omega
    obtain ⟨g, c, rfl, _, _, _⟩ := Kd.R_form HR (by omega)
    have hne' : vb ≠ g := fun e => hne (by rw [e]; rfl)
    by_cases hc : xs.length + 1 ≤ c
    · exact insert_room g c xs.length k vb vc xs x HR hlt hc HB hne' hcv hv
    · exact insert_grow g c xs.length k vb vc xs x HR hlt (by omega) hbig HB hbase (hok _ (Nat.le_refl _)) hcv hv
def insF (xs : List S60) (k : Int) (x : S60) : Option (List S60) := if 0 ≤ k then (if k ≤ xs.length then (if xs.length ≤ 1000000 then some (ins xs k.toNat x) else none) else none) else none
theorem insF_some {xs : List S60} {k : Int} {x : S60} {r : List S60} (h : insF xs k x = some r) : 0 ≤ k ∧ k ≤ xs.length ∧ xs.length ≤ 1000000 ∧ r = ins xs k.toNat x := by
  unfold insF at h
  split at h
  · split at h
    · split at h
      · exact ⟨‹_›, ‹_›, ‹_›, (Option.some.inj h).symm⟩
      · cases h
    · cases h
  · cases h
/-- The same, the new one in a slice of its own. -/
theorem insert_any {w0 W : World} {base : Nat} {ok ok2 : Nat → Prop} (v v2 : Value) (k : Int) (xs : List S60) (x : S60) (HR : Kd.R k60 60 W base ok v xs) (HV : Kd.R k60 60 W base ok2 v2 [x]) (h0 : 0 ≤ k) (h1 : k ≤ xs.length) (hbig : xs.length ≤ 1000000) (HB : Below base w0 W) (hbase : base ≤ W.heap.size) (hok : ∀ q, W.heap.size ≤ q → ok q) (hne : NeRow v v2) :
    Calls Try.prog 31 #[v, .int .i64 k, v2] W fun e w' => ∃ v', e = .returned v' ∧ Kd.R k60 60 w' base ok v' (ins xs k.toNat x) ∧ Below base w0 w' ∧ W.grownBy w' v.ownBlock ∧ (v'.ownBlock = v.ownBlock ∨ ∃ b, v'.ownBlock = some b ∧ W.heap.size ≤ b) := by
  obtain ⟨k, rfl⟩ := Int.eq_ofNat_of_zero_le h0
  obtain ⟨g, c, rfl, _, _, _⟩ := Kd.R_form HV (by simp)
  obtain ⟨_, _, _, _, _, cur, hh, hcs, ht⟩ := R_blk HV
  exact insert_calls v k g c xs x HR (by omega) hbig HB hbase hok (fun e => hne g e.symm rfl) (by simpa [flat, cells60] using ht) hh
end Go.Proofs.Ytnlnojolodnheaa.P
