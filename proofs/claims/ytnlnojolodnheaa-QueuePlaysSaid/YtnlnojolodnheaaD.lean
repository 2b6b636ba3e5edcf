/-
  slices.Delete and slices.Insert of one element, at the queue's items: what they leave of a row of the call's own.
-/
import Derived.Test.YtnlnojolodnheaaP0
import Derived.Test.YtnlnojolodnheaaX
import Derived.Deep.RegionLaw
import Derived.Lib.AppendZerosOnto
import Derived.Lib.AppendZeros
import Derived.Lib.Overlaps
import Derived.Laws.Externs
import Derived.Laws.NewBlocks
import Derived.Lib.SliceRun
namespace Go.Proofs.Ytnlnojolodnheaa.P
open Go.RowKit Go.Proofs.YtnlnojolodnheaaX Go.Proofs.YtnlnojolodnheaaW.PrintWords Go.Proofs.YtnlnojolodnheaaW.PrintLast Go.Proofs.YtnlnojolodnheaaW.PrintMore
set_option linter.unusedVariables false
set_option linter.unusedSimpArgs false
/-! ### a row, flat -/
def cells60 (x : S60) : List Value := [.int .i64 x.f0, .int .i64 x.f1, .int .i64 x.f2]
def flat (xs : List S60) : List Value := xs.flatMap cells60
theorem flat_len (xs : List S60) : (flat xs).length = xs.length * 3 := by
  induction xs with
  | nil => rfl
  | cons x xs ih =>
    show (cells60 x ++ flat xs).length = _
    rw [List.length_append, ih, List.length_cons]
    simp [cells60]
    omega
theorem flat_append (xs ys : List S60) : flat (xs ++ ys) = flat xs ++ flat ys := by simp [flat]
theorem flat_take (xs : List S60) (k : Nat) : flat (xs.take k) = (flat xs).take (k * 3) := by
  by_cases hk : k ≤ xs.length
  · have h : flat (xs.take k) ++ flat (xs.drop k) = flat xs := by rw [← flat_append, List.take_append_drop]
    have hl : (flat (xs.take k)).length = k * 3 := by rw [flat_len, List.length_take]; omega
    rw [← h, List.take_append_of_le_length (by omega), List.take_of_length_le (l := flat (xs.take k)) (by omega)]
  · rw [List.take_of_length_le (by omega), List.take_of_length_le (by rw [flat_len]; omega)]
theorem flat_drop (xs : List S60) (k : Nat) : flat (xs.drop k) = (flat xs).drop (k * 3) := by
  by_cases hk : k ≤ xs.length
  · have h : flat (xs.take k) ++ flat (xs.drop k) = flat xs := by rw [← flat_append, List.take_append_drop]
    have hl : (flat (xs.take k)).length = k * 3 := by rw [flat_len, List.length_take]; omega
    rw [← h, List.drop_append_of_le_length (by omega), List.drop_of_length_le (l := flat (xs.take k)) (by omega), List.nil_append]
  · rw [List.drop_of_length_le (by omega), List.drop_of_length_le (by rw [flat_len]; omega)]
    rfl
theorem flat_one (xs : List S60) : ∀ u ∈ flat xs, u.oneCell' = true := by
  intro u hu
  obtain ⟨x, _, h⟩ := List.mem_flatMap.1 hu
  simp only [cells60, List.mem_cons, List.not_mem_nil, or_false] at h
  rcases h with rfl | rfl | rfl <;> rfl
theorem flat_reps (w : World) (base : Nat) (ok : Nat → Prop) (xs : List S60) : Reps (k60.M w base ok) 3 xs (flat xs) := by
  refine ⟨flat_len xs, fun j p hj => ?_⟩
  obtain ⟨hlt, rfl⟩ := List.getElem?_eq_some_iff.1 hj
  have e : ((flat xs).drop (j * 3)).take 3 = cells60 xs[j] := by
    rw [← flat_drop, List.drop_eq_getElem_cons hlt]
    show (cells60 xs[j] ++ flat (xs.drop (j + 1))).take 3 = _
    rw [List.take_append_of_le_length (by simp [cells60])]
    rfl
  rw [e]
  exact k60_mkM w base ok _
theorem reps_flat {w : World} {base : Nat} {ok : Nat → Prop} : ∀ {xs : List S60} {inner : List Value}, Reps (k60.M w base ok) 3 xs inner → inner = flat xs
  | [], inner, h => List.eq_nil_of_length_eq_zero (by rw [h.1]; rfl)
  | x :: xs, inner, h => by
    have h0 := k60_openM (h.2 0 x rfl)
    rw [Nat.zero_mul, List.drop_zero] at h0
    have h1 := reps_flat (xs := xs) (inner := inner.drop 3) (by have := Kd.reps_drop (m := 1) h; simpa using this)
    rw [← List.take_append_drop 3 inner, h0, h1]
    rfl
/-- A row of the call's own, by its block. -/
theorem R_blk {W : World} {base : Nat} {ok : Nat → Prop} {g n c : Nat} {xs : List S60} (h : Kd.R k60 60 W base ok (.slice (some ⟨g, 0, none⟩) n c) xs) :
    ok g ∧ base ≤ g ∧ n = xs.length ∧ n ≤ c ∧ c ≤ maxLen ∧ ∃ cur, W.heap[g]? = some (.cells cur 60 (0, 0)) ∧ cur.size = c * 3 ∧ cur.toList.take (n * 3) = flat xs := by
  obtain ⟨hn, _, _⟩ := Kd.R_reads' h
  obtain ⟨hok, inner, hown, hr⟩ := h
  have hf := reps_flat hr
  subst hf
  rcases hown.2 with ⟨hv, _⟩ | ⟨g', cap', cur, hv, hb, hh, hnc, hcm, hcs, htake⟩
  · cases hv
  injection hv with ha h1 hc
  injection ha with ha
  injection ha with hg
  subst hg; subst hc
  refine ⟨hok g (by simp [Value.ownBlock]), hb, hn, by omega, hcm, cur, hh, hcs, ?_⟩
  rw [hn]
  exact htake
theorem R_of_blk {W : World} {base : Nat} {ok : Nat → Prop} {g n c : Nat} {xs : List S60} (hok : ok g) (hb : base ≤ g) (hn : n = xs.length) (hnc : n ≤ c) (hcm : c ≤ maxLen) {cur : Array Value} (hh : W.heap[g]? = some (.cells cur 60 (0, 0))) (hcs : cur.size = c * 3) (ht : cur.toList.take (n * 3) = flat xs) :
    Kd.R k60 60 W base ok (.slice (some ⟨g, 0, none⟩) n c) xs := by
  subst hn
  refine ⟨fun k hk => ?_, flat xs, ⟨by rw [flat_len]; rfl, .inr ⟨g, c, cur, rfl, hb, hh, hnc, hcm, hcs, ht⟩⟩, flat_reps _ _ _ _⟩
  have : g = k := by simpa [Value.ownBlock] using hk
  subst this
  exact hok
theorem grown_trans {w w1 w2 : World} {row : Option Nat} (h : w.grownBy w1 row) (h' : w1.grownBy w2 row) : w.grownBy w2 row :=
  ⟨h'.os.trans h.os, h'.tape.trans h.tape, h'.output.trans h.output, Nat.le_trans h.size h'.size, fun k hk hr => (h'.block k (Nat.lt_of_lt_of_le hk h.size) hr).trans (h.block k hk hr)⟩
theorem grown_drew {w w1 : World} {row : Option Nat} (h : w.drew.grownBy w1 row) : w.grownBy w1 row := ⟨h.os, h.tape, h.output, h.size, h.block⟩
theorem setCells_grown (w : World) (g o : Nat) (vs : List Value) : w.grownBy (w.setCells g o vs) (some g) := by
  obtain ⟨s1, s2, s3, s4⟩ := setCells_same g vs o w
  exact ⟨s1, s2, s3, Nat.le_of_eq s4.symm, fun k _ hk => setCells_far _ _ k (fun e => hk (by rw [e]))⟩
/-! ### slices.Delete of one -/
theorem zero60 (w : World) : (zeroValue 60).run Try.prog w = .ok (.agg #[.int .i64 0, .int .i64 0, .int .i64 0]) w := by kernel_rfl
theorem wpList_clear {P : Program} {ops : Array Oper} {rest : List Oper} {o : Oper} {a : Act} {Q : Exit → Act → World → Prop} {w w' : World} (hg : o.guard = none) (x : Operand) (t : TypeId)
    (hop : o.op = Op.call { callee := Callee.builtin Builtin.clear, args := #[x], argTypes := #[t] }) (v : Value) (hx : a.eval x = v) (hrun : ∀ ty, (Builtin.clear_ #[t] ty #[v]).run P w = .ok (.tuple #[]) w')
    (hK : wpList P ops Q rest (a.put o.dst (.tuple #[])) w') : wpList P ops Q (o :: rest) a w := by
  refine wpList_plain hg fun K' hK' => ?_
  unfold Oper.wp
  simp [execOp, hop, resolve, invoke, builtin, hx, hrun, Result.andThen]
  exact hK' _ _ hK
theorem zeroCells_len (n : Nat) : (Builtin.zeroCells #[.int .i64 0, .int .i64 0, .int .i64 0] n).toList.length = n * 3 := by simp [Builtin.zeroCells]
theorem zeroCells_one (n : Nat) : ∀ v ∈ (Builtin.zeroCells #[.int .i64 0, .int .i64 0, .int .i64 0] n).toList, v.oneCell' = true := by
  intro v hv
  simp only [Builtin.zeroCells, Array.toList_map, List.mem_map] at hv
  obtain ⟨q, _, rfl⟩ := hv
  have h2 : q % 3 < 3 := Nat.mod_lt _ (by omega)
  have : q % 3 = 0 ∨ q % 3 = 1 ∨ q % 3 = 2 := by omega
  rcases this with e | e | e <;> (show (#[Value.int .i64 0, .int .i64 0, .int .i64 0][q % 3]!).oneCell' = true; rw [e]; rfl)
theorem clear_run (W : World) (ty : TypeId) (g i n c : Nat) (hi : i < n) (cur : Array Value) (hh : W.heap[g]? = some (.cells cur 60 (0, 0))) (hcur : n * 3 ≤ cur.size) :
    (Builtin.clear_ #[27] ty #[.slice (some ⟨g, i * 3, none⟩) (n - i) c]).run Try.prog W = .ok (.tuple #[]) (W.setCells g (i * 3) (Builtin.zeroCells #[.int .i64 0, .int .i64 0, .int .i64 0] (n - i)).toList) := by
  have hst := run_storeCells_cells (P := Try.prog) g (i * 3) (Builtin.zeroCells #[.int .i64 0, .int .i64 0, .int .i64 0] (n - i)).toList 0 W (fun j hj => by
      rw [zeroCells_len] at hj
      rw [blk_cell hh]
      simp; omega) (fun j hj => blk_frozen hh _) (zeroCells_one _)
  simp only [Nat.add_zero] at hst
  obtain ⟨m, hm⟩ : ∃ m, n - i = m + 1 := ⟨n - i - 1, by omega⟩
  rw [hm] at hst ⊢
  simp [Builtin.clear_, run_underlying Try.underlying27, zero60, Value.cells, hst]
theorem clear_R {W : World} {base : Nat} {ok : Nat → Prop} {g n c i : Nat} {xs : List S60} (h : Kd.R k60 60 W base ok (.slice (some ⟨g, 0, none⟩) i c) xs) (hi : i < n) (hn : n ≤ c) (c' : Nat) :
    ∃ w1, (∀ ty, (Builtin.clear_ #[27] ty #[.slice (some ⟨g, i * 3, none⟩) (n - i) c']).run Try.prog W = .ok (.tuple #[]) w1) ∧ Kd.R k60 60 w1 base ok (.slice (some ⟨g, 0, none⟩) i c) xs ∧ W.grownBy w1 (some g) := by
  obtain ⟨h1, h2, h3, h4, h5, cur, hh, hcs, ht⟩ := R_blk h
  refine ⟨_, fun ty => clear_run W ty g i n c' hi cur hh (by omega), ?_, ?_⟩
  · obtain ⟨cur', g1, g2, g3⟩ := setCells_row (Builtin.zeroCells #[.int .i64 0, .int .i64 0, .int .i64 0] (n - i)).toList (i * 3) W cur hh (by rw [zeroCells_len]; omega)
    refine R_of_blk h1 h2 h3 h4 h5 g1 (by rw [g2, hcs]) ?_
    rw [g3, List.append_assoc, List.take_append_of_le_length (by rw [List.length_take, Array.length_toList]; omega), List.take_take, Nat.min_self, ht]
  · obtain ⟨s1, s2, s3, s4⟩ := setCells_same g (Builtin.zeroCells #[.int .i64 0, .int .i64 0, .int .i64 0] (n - i)).toList (i * 3) W
    exact ⟨s1, s2, s3, Nat.le_of_eq s4.symm, fun k _ hk => setCells_far _ _ k (fun e => hk (by rw [e]))⟩
set_option maxHeartbeats 4000000 in
set_option maxRecDepth 100000 in
theorem delete_calls {w0 W : World} {base : Nat} {ok : Nat → Prop} (g c n k : Nat) (xs : List S60) (HR : Kd.R k60 60 W base ok (.slice (some ⟨g, 0, none⟩) n c) xs) (hk : k < n) (HB : Below base w0 W) (hbase : base ≤ W.heap.size) :
    Calls Try.prog 44 #[.slice (some ⟨g, 0, none⟩) n c, .int .i64 k, .int .i64 ((k : Int) + 1)] W fun e w' => e = .returned (.slice (some ⟨g, 0, none⟩) (n - 1) c) ∧ Kd.R k60 60 w' base ok (.slice (some ⟨g, 0, none⟩) (n - 1) c) (xs.eraseIdx k) ∧ Below base w0 w' ∧ W.grownBy w' (some g) := by
  obtain ⟨h1, h2, h3, h4, h5, cur, hh, hcs, ht⟩ := R_blk HR
  clear cur hh hcs ht
  unfold maxLen at h5
  have HRD : Kd.R k60 60 W.drew base ok (.slice (some ⟨g, 0, none⟩) n c) xs := Kd.R_drew HR
  have hp0 : ((k : Int) == (k : Int) + 1) = false := beq_eq_false_iff_ne.2 (by omega)
  have hp1 : (0 : Int) ≤ (k : Int) := by omega
  have hp2 : (k : Int) ≤ (k : Int) + 1 := by omega
  have hp3 : (k : Int) + 1 ≤ (n : Int) := by omega
  have hp4 : (n : Int) ≤ (c : Int) := by omega
  have hp5 : ((k : Int) + 1).toNat = k + 1 := by omega
  have hp6 : (0 : Int) ≤ (k : Int) + 1 := by omega
  have hp7 : k ≤ c := by omega
  have hp8 : k + 1 ≤ n := hk
  have hp9 : k ≤ n := by omega
  have HA := Aside0.mk HRD
  have HBD := Aside0.mk (below_drew HB)
  have HZ := Aside0.mk (show base ≤ W.drew.heap.size from hbase)
  have HK := Aside0.mk hk
  have HN := Aside0.mk h4
  obtain ⟨m, hm⟩ : ∃ m, n - 1 = m := ⟨_, rfl⟩
  rw [hm]
  have hm1 : (0 : Int) ≤ (m : Int) := by omega
  have hm2 : (m : Int) ≤ (n : Int) := by omega
  have hm3 : m ≤ c := by omega
  have hm4 : (c = m) = False := eq_false (by omega)
  have HL := Aside0.mk (show m < n by omega)
  have HM := Aside0.mk hm
  clear hm
  clear HR HRD HB hbase h1 h2 h3
  go_enter Try.func44, Try.ntmps44
  go_wp2
  go_region_law (refine Kd.R_delete_step k60 (w0 := w0) base rfl (.tmp 22) (.tmp 25) 27 60 rfl Try.underlying27 (by kernel_rfl) (g := g) (n := n) (c := c) (k := k) (A := if c = k + 1 then some ⟨g, 0, none⟩ else (some (⟨g, 0, none⟩ : Addr)).map (·.add ((k + 1) * k60.sz))) (m := n - (k + 1)) (c2 := c - (k + 1)) (by simp [Act.eval, Act.put]) ?hX rfl rfl HA.out HK.out HBD.out HZ.out ?_; (case hX => simp [Act.eval, Act.put]; (try rw [Addr.add_lit, Nat.zero_add]; rfl)); intro w1 hR1 hB1 hG1; rw [HM.out] at hR1 ⊢; generalize (if c = k + 1 then some (⟨g, 0, none⟩ : Addr) else some ⟨g, (k + 1) * 3, none⟩) = A_; replace hR1 := Aside0.mk hR1; replace hB1 := Aside0.mk hB1; have HZ1 := Aside0.mk (Nat.le_trans HZ.out hG1.size); have HG1 := Aside0.mk hG1; clear hG1)
  obtain ⟨w2, hclr, hR2, hG2⟩ := clear_R hR1.out HL.out HN.out (c - m)
  have HC := Aside0.mk hclr
  have HR2 := Aside0.mk hR2
  have HB2 := Aside0.mk (hB1.out.grown hG2 HZ1.out (fun q hq => by injection hq with hq; subst hq; exact (R_blk hR2).2.1))
  have HG2 := Aside0.mk (grown_trans (grown_drew HG1.out) hG2)
  clear hclr hR2 hG2
  go_wp2_with (first | ((with_reducible refine gate_builtin (b := .clear) (xs := #[.tmp 31]) rfl ?_); refine wpList_clear rfl (.tmp 31) 27 rfl _ rfl HC.out ?_) | go_in)
  go_ret
  exact ⟨rfl, HR2.out, HB2.out, HG2.out⟩
/-- The same, whatever the row's value is. -/
theorem delete_any {w0 W : World} {base : Nat} {ok : Nat → Prop} (v : Value) (a : Int) (xs : List S60) (HR : Kd.R k60 60 W base ok v xs) (h0 : 0 ≤ a) (h1 : a < xs.length) (HB : Below base w0 W) (hbase : base ≤ W.heap.size) :
    Calls Try.prog 44 #[v, .int .i64 a, .int .i64 (a + 1)] W fun e w' => ∃ v', e = .returned v' ∧ Kd.R k60 60 w' base ok v' (xs.eraseIdx a.toNat) ∧ Below base w0 w' ∧ W.grownBy w' v.ownBlock ∧ v'.ownBlock = v.ownBlock := by
  obtain ⟨k, rfl⟩ := Int.eq_ofNat_of_zero_le h0
  obtain ⟨g, c, rfl, _, _, _⟩ := Kd.R_form HR (by omega)
  exact (delete_calls g c xs.length k xs HR (by omega) HB hbase).mono fun e w' ⟨he, hR, hB, hG⟩ => ⟨_, he, hR, hB, hG, rfl⟩
/-! ### small laws -/
theorem field29 (a : Int) (A : Option Addr) (n c : Nat) (w : World) : (Instr.field 29 (.agg #[.int .i64 a, .slice A n c]) 1).run Try.prog w = .ok (.slice A n c) w := by rfl
theorem field24 (a : Int) (A : Option Addr) (n c : Nat) (w : World) : (Instr.field 24 (.agg #[.int .i64 a, .slice A n c]) 1).run Try.prog w = .ok (.slice A n c) w := by rfl
theorem field29n (a : Int) (A : Option Addr) (n c : Nat) (w : World) : (Instr.field 29 (.agg #[.int .i64 a, .slice A n c]) 0).run Try.prog w = .ok (.int .i64 a) w := by rfl
theorem Kd.V_ne {α : Type} {d : Kd α} {e base n c g : Nat} {ok : Nat → Prop} {W : World} {ad : Addr} {xs : List α} (h : Kd.V d e W base ok (.slice (some ad) n c) xs) (hok : ∀ k, ok k → k ≠ g) (hn : 0 < xs.length) (hs : 0 < d.sz) : ad.block ≠ g := by
  intro he
  obtain ⟨W', h1, h2⟩ := Kd.emptied W g
  have hF := (Kd.V_at h).2.2 W' (fun k hk _ => h1 k (hok k hk))
  exact Kd.C_not_empty hF hn hs (h2 ad he)
end Go.Proofs.Ytnlnojolodnheaa.P
