-- Written by a program of this session (xprint.py, asm.py).
import Derived.Test.YtinngbfkefaiiaaP0
import Derived.Test.YtinngbfkefaiiaaP1
import Derived.Test.YtinngbfkefaiiaaP2
import Derived.Test.YtinngbfkefaiiaaP3
import Derived.Test.YtinngbfkefaiiaaP4
import Derived.Test.YtinngbfkefaiiaaP5
import Derived.Test.YtinngbfkefaiiaaX
import Derived.Test.YtinngbfkefaiiaaS
import Derived.Test.YtinngbfkefaiiaaR
namespace Go.Proofs.Ytinngbfkefaiiaa.P
open Go.Proofs.YtinngbfkefaiiaaX Go.RowKit Go.Proofs.YtinngbfkefaiiaaW.PrintWords Go.Proofs.YtinngbfkefaiiaaW.PrintLast Go.Proofs.YtinngbfkefaiiaaW.PrintMore
attribute [local go_sem] max2_int min2_int max_two min_two max_three min_three max_four min_four   -- for this text's walks alone

set_option linter.unusedVariables false
set_option linter.unusedSimpArgs false

/-! ### timer_Drop: function 16 -/
section
theorem idx_l0 (id : Int) (xs : List S49) (hxs : xs.length ≤ 1000000) : ∀ (d k j : Nat), j ≤ xs.length → xs.length - j = d → d < k → (∀ i, i < j → (rd_T49 xs (i : Int)).f0 ≠ id) →
    ∃ r, timer_Nap_35.l0 (isOf id) k xs (xs.length : Int) (j : Int) = some r ∧ ((r = -1 ∧ ∀ i : Nat, i < xs.length → (rd_T49 xs (i : Int)).f0 ≠ id) ∨ ∃ m : Nat, r = (m : Int) ∧ m < xs.length ∧ (∀ i : Nat, i < m → (rd_T49 xs (i : Int)).f0 ≠ id) ∧ (rd_T49 xs (m : Int)).f0 = id) := by
  intro d
  induction d with
  | zero =>
    intro k j h1 h2 hk ha
    obtain ⟨k, rfl⟩ : ∃ m, k = m + 1 := ⟨k - 1, by omega⟩
    have e : j = xs.length := by omega
    subst e
    refine ⟨-1, ?_, .inl ⟨rfl, ha⟩⟩
    simp only [timer_Nap_35.l0]
    rw [if_neg (by omega)]
  | succ d ih =>
    intro k j h1 h2 hk ha
    obtain ⟨k, rfl⟩ : ∃ m, k = m + 1 := ⟨k - 1, by omega⟩
    simp only [timer_Nap_35.l0]
    rw [if_pos (by omega), if_pos (by omega), if_pos (by omega)]
    simp only [isOf, Option.bind_some]
    by_cases hq : (rd_T49 xs (j : Int)).f0 = id
    · refine ⟨j, ?_, .inr ⟨j, rfl, by omega, ha, hq⟩⟩
      rw [if_pos (by simpa using hq)]
    · rw [if_neg (by simpa using hq), show wrap64 ((j : Int) + 1) = ((j + 1 : Nat) : Int) by unfold wrap64; omega]
      refine ih k (j + 1) (by omega) (by omega) (by omega) (fun i hi => ?_)
      by_cases e : i = j
      · subst e; exact hq
      · exact ha i (by omega)
theorem idx_eq (id : Int) (xs : List S49) (hxs : xs.length ≤ 1000000) (k : Nat) (hk : xs.length < k) :
    ∃ r, timer_Nap_35.f (isOf id) k xs = some r ∧ ((r = -1 ∧ ∀ i : Nat, i < xs.length → (rd_T49 xs (i : Int)).f0 ≠ id) ∨ ∃ m : Nat, r = (m : Int) ∧ m < xs.length ∧ (∀ i : Nat, i < m → (rd_T49 xs (i : Int)).f0 ≠ id) ∧ (rd_T49 xs (m : Int)).f0 = id) :=
  idx_l0 id xs hxs _ k 0 (Nat.zero_le _) rfl (by omega) (fun i hi => absurd hi (Nat.not_lt_zero _))
/-- 'clear(s)': some world in which only these cells are turned. -/
theorem clear_run (W : World) (ty : TypeId) (g i n c : Nat) (hi : i < n) (cur : Array Value) (hh : W.heap[g]? = some (.cells cur 49 (0, 0))) (hcur : n * 2 ≤ cur.size) :
    (Builtin.clear_ #[24] ty #[.slice (some ⟨g, i * 2, none⟩) (n - i) c]).run Try.prog W = .ok (.tuple #[]) (W.setCells g (i * 2) (Builtin.zeroCells #[.int .i64 0, .int .i64 0] (n - i)).toList) := by
  have hzs : (Builtin.zeroCells #[.int .i64 0, .int .i64 0] (n - i)).toList.length = (n - i) * 2 := by simp [Builtin.zeroCells]
  have hz1 : ∀ v ∈ (Builtin.zeroCells #[.int .i64 0, .int .i64 0] (n - i)).toList, v.oneCell' = true := by
    intro v hv
    simp only [Builtin.zeroCells, Array.toList_map, List.mem_map] at hv
    obtain ⟨q, _, rfl⟩ := hv
    have h2 : q % 2 < 2 := Nat.mod_lt _ (by omega)
    have : q % 2 = 0 ∨ q % 2 = 1 := by omega
    rcases this with e | e
    · show (#[Value.int .i64 0, .int .i64 0][q % 2]!).oneCell' = true
      rw [e]; rfl
    · show (#[Value.int .i64 0, .int .i64 0][q % 2]!).oneCell' = true
      rw [e]; rfl
  have hst := run_storeCells_cells (P := Try.prog) g (i * 2) (Builtin.zeroCells #[.int .i64 0, .int .i64 0] (n - i)).toList 0 W (fun j hj => by
      rw [hzs] at hj
      rw [blk_cell hh]
      simp; omega) (fun j hj => blk_frozen hh _) hz1
  simp only [Nat.add_zero] at hst
  obtain ⟨m, hm⟩ : ∃ m, n - i = m + 1 := ⟨n - i - 1, by omega⟩
  have hzv : ∀ w, (zeroValue 49).run Try.prog w = .ok (.agg #[.int .i64 0, .int .i64 0]) w := fun w => by kernel_rfl
  rw [hm] at hst ⊢
  simp [Builtin.clear_, run_underlying Try.underlying24, hzv, Value.cells, hst]
theorem size49i : (Try.prog.info? 49).map (·.size) = some 2 := by kernel_rfl
theorem cells2 {W : World} {gr n : Nat} {cs : List S49} (hC : Kd.C k49 W (some ⟨gr, 0, none⟩) n cs) (i : Nat) (hi : i < n) :
    ∀ q u, [Value.int .i64 (rd_T49 cs (i : Int)).f0, .int .i64 (rd_T49 cs (i : Int)).f1][q]? = some u → W.cell? ⟨gr, (i : Int).toNat * k49.sz + q, none⟩ = some u := by
  intro q u hu
  obtain ⟨ad, e0, h0, h1⟩ := at_T49 hC (i : Int) (by omega) (by omega)
  obtain rfl := Option.some.inj e0
  simp only [Int.toNat_natCast, Addr.add_lit, Nat.zero_add] at h0 h1
  rw [Int.toNat_natCast, show k49.sz = 2 from rfl]
  match q, hu with
  | 0, hu => exact h0.trans hu
  | 1, hu => exact h1.trans hu
  | q + 2, hu => exact absurd hu (by simp)
theorem take_snoc (l : List S49) (j : Nat) (h : j < l.length) : l.take (j + 1) = l.take j ++ [rd_T49 l (j : Int)] := by
  rw [List.take_add, drop_rd l j h]; rfl
theorem C_keep49 {W W3 : World} {gr n : Nat} {ys : List S49} (h : Kd.C k49 W (some ⟨gr, 0, none⟩) n ys) (hc : ∀ off, off < n * 2 → W3.cell? ⟨gr, off, none⟩ = W.cell? ⟨gr, off, none⟩) : Kd.C k49 W3 (some ⟨gr, 0, none⟩) n ys := by
  obtain ⟨h1, h2, h3⟩ := h
  refine ⟨h1, h2, fun hn => ?_⟩
  obtain ⟨ad, e, hh⟩ := h3 hn
  cases e
  refine ⟨_, rfl, fun j p hp => ?_⟩
  obtain ⟨c, hc1, hc2, hc3⟩ := hh j p hp
  have hj := (List.getElem?_eq_some_iff.1 hp).1
  refine ⟨c, hc1, ?_, fun i u hu => ?_⟩
  · obtain rfl := k49_open hc2
    exact k49_mk _ _
  · have hi := (List.getElem?_eq_some_iff.1 hu).1
    have := hc3 i u hu
    rw [show k49.sz = 2 from rfl] at hc1 this ⊢
    rw [Addr.add_lit] at this ⊢
    rw [hc _ (by omega)]
    exact this
theorem wpList_clear {P : Program} {ops : Array Oper} {rest : List Oper} {o : Oper} {a : Act} {Q : Exit → Act → World → Prop} {w w' : World} (hg : o.guard = none) (x : Operand) (t : TypeId)
    (hop : o.op = Op.call { callee := Callee.builtin Builtin.clear, args := #[x], argTypes := #[t] }) (v : Value) (hx : a.eval x = v) (hrun : ∀ ty, (Builtin.clear_ #[t] ty #[v]).run P w = .ok (.tuple #[]) w')
    (hK : wpList P ops Q rest (a.put o.dst (.tuple #[])) w') : wpList P ops Q (o :: rest) a w := by
  refine wpList_plain hg fun K' hK' => ?_
  unfold Oper.wp
  simp [execOp, hop, resolve, invoke, builtin, hx, hrun, Result.andThen]
  exact hK' _ _ hK
def notId (id : Int) (x : S49) : Bool := !(x.f0 == id)
set_option maxHeartbeats 4000000 in
set_option maxRecDepth 100000 in
theorem delete_some (id : Int) (g gr c : Nat) (xs : List S49) (w W : World) (hxs : xs.length ≤ 1000000) (hR : Kd.R k49 49 W w.heap.size (fun _ => True) (.slice (some ⟨gr, 0, none⟩) xs.length c) xs) (hB : Below w.heap.size w W) (hbox : W.heap[g]? = some (.cells #[.int .i64 id] 3 (0, 0))) :
    Calls Try.prog 33 #[.slice (some ⟨gr, 0, none⟩) xs.length c, .func (.func 36) #[] #[.pointer (some ⟨g, 0, none⟩)]] W fun e w' => e = .returned (.slice (some ⟨gr, 0, none⟩) (xs.filter (notId id)).length c) ∧ Kd.V k49 49 w' w.heap.size (fun k => w.heap.size ≤ k) (.slice (some ⟨gr, 0, none⟩) (xs.filter (notId id)).length c) (xs.filter (notId id)) ∧ Below w.heap.size w w' := by
  obtain ⟨r, hr1, hr2⟩ := idx_eq id xs hxs (xs.length + 1) (by omega)
  have hread := (Kd.R_reads' hR).2.2
  have hcap := (Kd.R_reads' hR).2.1
  have hcI : W.cell? ⟨g, 0, none⟩ = some (.int .i64 id) := (blk_cell hbox 0).trans rfl
  have hcall := timer_Nap_35.calls 36 #[.pointer (some ⟨g, 0, none⟩)] enters36 (isOf id) (xs.length + 1) (some ⟨gr, 0, none⟩) c xs r W (fun a b r W h hb => is1_calls id g a b r W (pw_cell_below hb hcI) h) hread hcap hr1
  have HR := Aside0.mk hR
  have HBX := Aside0.mk hbox
  have HB := Aside0.mk hB
  clear hread hR hbox hB hr1 hcI
  rcases hr2 with ⟨rfl, hall⟩ | ⟨m, rfl, hm, hall, hat⟩
  · have hf : xs.filter (notId id) = xs := by
      rw [List.filter_eq_self]
      intro x hx
      obtain ⟨i, hi, rfl⟩ := List.mem_iff_getElem.1 hx
      have := hall i hi
      simp only [rd_T49, List.getD, Int.toNat_natCast, List.getElem?_eq_getElem hi, Option.getD_some] at this
      simp [notId, this]
    rw [hf]
    go_enter Try.func33, Try.ntmps33
    go_wp2_with (first | (go_at_call 35; refine hcall.mono ?_; rintro e w' ⟨rfl, hb⟩) | go_in)
    go_ret
    exact ⟨rfl, Kd.V_below (Kd.V_mono (Kd.R_V (Kd.R_bound HR.out)) (fun k hk => hk.2.1)) hb, below_step HB.out hb⟩
  · have hm0 : 0 ≤ (m : Int) := by omega
    have hm1 : ((m : Int) == -1) = false := beq_eq_false_iff_ne.2 (by omega)
    go_enter Try.func33, Try.ntmps33
    go_wp2_with (first | (go_at_call 35; refine hcall.mono ?_; rintro e w' ⟨rfl, hb⟩; have hR1 := Aside0.mk (Kd.R_step HR.out (fun k _ hlt => hb.block k hlt)); have hbx1 := Aside0.mk (blk_below HBX.out hb); replace hb := Aside0.mk (below_step HB.out hb)) | go_in)
    go_loopw [5, 6] (fun v5 v6 wr => ∃ (i j : Nat) (cs : List S49), v5 = .int .i64 i ∧ v6 = .int .i64 j ∧ i < j ∧ j ≤ xs.length ∧ Aside0 (Kd.R k49 49 wr w.heap.size (fun _ => True) (.slice (some ⟨gr, 0, none⟩) xs.length c) cs) ∧ Aside0 (wr.heap[g]? = some (.cells #[.int .i64 id] 3 (0, 0))) ∧ Aside0 (Below w.heap.size w wr) ∧ Aside0 (cs.take i = (xs.take j).filter (notId id)) ∧ Aside0 (cs.drop j = xs.drop j))
      (fun _ v6 _ => xs.length - (intOf v6).toNat)
    case atStart =>
      refine ⟨m, m + 1, xs, rfl, by go_num, by omega, by omega, hR1, hbx1, hb, ⟨?_⟩, ⟨rfl⟩⟩
      rw [take_snoc xs m hm, List.filter_append]
      have e2 : (xs.take m).filter (notId id) = xs.take m := by
        rw [List.filter_eq_self]
        intro x hx
        obtain ⟨i, hi, rfl⟩ := List.mem_iff_getElem.1 hx
        have hi' : i < m ∧ i < xs.length := by rw [List.length_take] at hi; omega
        have := hall i hi'.1
        simp only [rd_T49, List.getD, Int.toNat_natCast, List.getElem?_eq_getElem hi'.2, Option.getD_some] at this
        simp [notId, this]
      rw [e2]
      simp [notId, hat]
    case round =>
      obtain ⟨i, j, cs, rfl, rfl, hij, hjn, HR1, HBX1, HB1, HT, HD⟩ := hrel
      have hlen : cs.length = xs.length := ((Kd.R_reads' HR1.out).1).symm
      by_cases hlt : j < xs.length
      · have hlt' : ((j : Int) < (xs.length : Int)) = True := eq_true (by omega)
        have hj0 : (0 ≤ (j : Int)) = True := eq_true (by omega)
        have hi0 : (0 ≤ (i : Int)) = True := eq_true (by omega)
        have hi1 : ((i : Int) < (xs.length : Int)) = True := eq_true (by omega)
        have hread := (Kd.R_reads' HR1.out).2.2
        obtain ⟨ad, e0, hx0, hx1⟩ := at_T49 hread (j : Int) (by omega) (by omega)
        obtain rfl := Option.some.inj e0
        obtain ⟨ad, e0, ho0, ho1⟩ := at_T49 hread (i : Int) (by omega) (by omega)
        obtain rfl := Option.some.inj e0
        obtain ⟨x, hx⟩ : ∃ x, rd_T49 cs (j : Int) = x := ⟨_, rfl⟩
        obtain ⟨y, hy⟩ : ∃ y, rd_T49 cs (i : Int) = y := ⟨_, rfl⟩
        rw [hx] at hx0 hx1
        rw [hy] at ho0 ho1
        simp only [Int.toNat_natCast, Addr.add_lit, Nat.zero_add] at hx0 hx1 ho0 ho1
        have hcI1 : (wr.alloc (Obj.cells #[.int .i64 x.f0, .int .i64 x.f1] 49)).cell? ⟨g, 0, none⟩ = some (.int .i64 id) := (blk_cell (blk_alloc HBX1.out _) 0).trans rfl
        have hd1 := drop_rd cs j (by omega)
        rw [HD.out, drop_rd xs j hlt, hx] at hd1
        injection hd1 with hd1 hd2
        have HX := Aside0.mk hd1
        have HX2 := Aside0.mk hd2
        clear hx hread hd1 hd2
        cases hp : x.f0 == id with
        | true =>
          go_wp2_with (first | ((with_reducible refine gate_value (x := .tmp 26) rfl ?_); refine goesF_ (some 28) rfl rfl #[.pointer (some ⟨g, 0, none⟩)] enters36 #[.agg #[.int .i64 x.f0, .int .i64 x.f1]] rfl rfl (by (try simp only [List.map_toArray, List.map_cons, List.map_nil]); first | done | rfl) ?_; refine (is1_calls id g x.f0 x.f1 true _ hcI1 (by rw [isOf, hp])).mono ?_; rintro e w2 ⟨rfl, hb⟩; refine ⟨_, rfl, ?_⟩; have hR2 := Aside0.mk (Kd.R_step (Kd.R_alloc HR1.out (Obj.cells #[.int .i64 x.f0, .int .i64 x.f1] 49)) (fun k _ hlt => hb.block k hlt)); have hbx2 := Aside0.mk (blk_below (blk_alloc HBX1.out (Obj.cells #[.int .i64 x.f0, .int .i64 x.f1] 49)) hb); have hB2 := Aside0.mk (below_step (below_alloc HB1.out (Obj.cells #[.int .i64 x.f0, .int .i64 x.f1] 49)) hb); have hv2 := blk_below (blk_new wr (Obj.cells #[.int .i64 x.f0, .int .i64 x.f1] 49)) hb; have hv20 := (blk_cell hv2 0).trans rfl; have hv21 := (blk_cell hv2 1).trans rfl; clear hv2; clear hb) | go_in)
          go_roundw
          case measure => simp only [intOf]; omega
          case rel =>
            refine ⟨i, j + 1, cs, rfl, by go_num, by omega, by omega, hR2, hbx2, hB2, ⟨?_⟩, ⟨HX2.out.symm⟩⟩
            rw [take_snoc xs j hlt, List.filter_append, HX.out, HT.out]
            simp only [List.filter_cons, notId, hp, Bool.not_true, Bool.false_eq_true, if_false, List.filter_nil, List.append_nil]
        | false =>
          go_wp2_with (first | ((with_reducible refine gate_value (x := .tmp 26) rfl ?_); refine goesF_ (some 28) rfl rfl #[.pointer (some ⟨g, 0, none⟩)] enters36 #[.agg #[.int .i64 x.f0, .int .i64 x.f1]] rfl rfl (by (try simp only [List.map_toArray, List.map_cons, List.map_nil]); first | done | rfl) ?_; refine (is1_calls id g x.f0 x.f1 false _ hcI1 (by rw [isOf, hp])).mono ?_; rintro e w2 ⟨rfl, hb⟩; refine ⟨_, rfl, ?_⟩; have hR2 := Aside0.mk (Kd.R_step (Kd.R_alloc HR1.out (Obj.cells #[.int .i64 x.f0, .int .i64 x.f1] 49)) (fun k _ hlt => hb.block k hlt)); have hbx2 := Aside0.mk (blk_below (blk_alloc HBX1.out (Obj.cells #[.int .i64 x.f0, .int .i64 x.f1] 49)) hb); have hB2 := Aside0.mk (below_step (below_alloc HB1.out (Obj.cells #[.int .i64 x.f0, .int .i64 x.f1] 49)) hb); have hv2 := blk_below (blk_new wr (Obj.cells #[.int .i64 x.f0, .int .i64 x.f1] 49)) hb; have hv20 := (blk_cell hv2 0).trans rfl; have hv21 := (blk_cell hv2 1).trans rfl; clear hv2; clear hb) | ((with_reducible refine gate_store (t := 49) (p := 33) (v := .tmp 32) rfl ?_); refine Kd.R_store k49 (w0 := w) w.heap.size rfl rfl 49 (.tmp 33) (.tmp 32) rfl 49 (g := gr) (n := xs.length) (cap := c) (o' := i * 2) (i : Int) 0 cs x (.agg #[.int .i64 x.f0, .int .i64 x.f1]) [.int .i64 x.f0, .int .i64 x.f1] [.int .i64 (rd_T49 cs (i : Int)).f0, .int .i64 (rd_T49 cs (i : Int)).f1] (fun _ => True) (fun _ => False) rfl (by rw [Int.toNat_natCast, show k49.sz = 2 from rfl]; rfl) rfl rfl size49i (by intro q hq; simp at hq; rcases hq with rfl | rfl <;> rfl) hR2.out (by omega) (by omega) rfl (cells2 (Kd.R_reads' hR2.out).2.2 i (by omega)) (show 0 + 2 ≤ 2 by omega) (k49_mkM _ _ _ x) (fun _ h => h.elim) hB2.out ?_; intro w3 hR3 hB3 hg3) | go_in)
          have hbx3 := blk_grown hbx2.out hg3 (by
            intro e
            injection e with e
            subst e
            obtain ⟨cells, hc⟩ := own_typed (show wr.ownsRow w.heap.size 49 2 _ _ _ from (HR1.out.2).choose_spec.1) g rfl
            rw [HBX1.out] at hc
            cases hc)
          go_roundw
          case measure => simp only [intOf]; omega
          case rel =>
            refine ⟨i + 1, j + 1, cs.set i x, by go_num, by go_num, by omega, by omega, ⟨hR3⟩, ⟨hbx3⟩, ⟨hB3⟩, ⟨?_⟩, ⟨?_⟩⟩
            · rw [take_snoc xs j hlt, List.filter_append, HX.out, ← HT.out, List.set_eq_take_append_cons_drop, if_pos (by omega)]
              have hl : (cs.take i).length = i := by rw [List.length_take]; omega
              rw [List.take_append, List.take_of_length_le (by omega), hl]
              simp [List.filter_cons, notId, hp]
            · rw [List.drop_set_of_lt (by omega)]
              exact HX2.out.symm
      · have hlt' : ((j : Int) < (xs.length : Int)) = False := eq_false (by omega)
        have hjn' : j = xs.length := by omega
        subst hjn'
        have hi0 : (0 ≤ (i : Int)) = True := eq_true (by omega)
        have hi1 : ((i : Int) ≤ (xs.length : Int)) = True := eq_true (by omega)
        have hi2 : ((i : Int) ≤ (c : Int)) = True := eq_true (by omega)
        have hic : (c = i) = False := eq_false (by omega)
        have hread := Kd.C_take (m := i) (Kd.R_reads' HR1.out).2.2 (by omega)
        have hT : cs.take i = xs.filter (notId id) := by rw [HT.out, List.take_of_length_le (Nat.le_refl _)]
        have hFl : (xs.filter (notId id)).length = i := by rw [← hT, List.length_take]; omega
        rw [hT] at hread
        obtain ⟨_, inner, hown, _⟩ := HR1.out
        have hown2 := hown.2
        rcases hown2 with ⟨hv, _⟩ | ⟨g2, cap2, cur, hv, hg2, hh, hrest⟩
        · injection hv with h1 h2 h3
          cases h1
        · injection hv with h1 h2 h3
          have h1 := Option.some.inj h1
          injection h1 with h1 _ _
          subst h1 h3
          have hclr := fun ty => clear_run wr ty gr i xs.length (c - i) (by omega) cur hh (by have h3 := hrest.2.2.1; have := hrest.1; rw [show k49.sz = 2 from rfl] at h3; omega)
          have HR2 := Aside0.mk hread
          have HH := Aside0.mk hh
          have HC := Aside0.mk hclr
          have HF := Aside0.mk hFl
          have HM := Aside0.mk (show c ≤ 9223372036854775807 by have := hrest.2.1; unfold maxLen at this; omega)
          clear hread hh hrest hown hclr hT hFl hlen hlt h2
          rename_i hleft hright
          clear hleft hright
          go_wp2_with (first | ((with_reducible refine gate_builtin (b := .clear) (xs := #[.tmp 38]) rfl ?_); refine wpList_clear rfl (.tmp 38) 24 rfl _ rfl HC.out ?_) | go_in)
          go_ret
          rw [HF.out]
          have hbel : Below w.heap.size w (wr.setCells gr (i * 2) (Builtin.zeroCells #[.int .i64 0, .int .i64 0] (xs.length - i)).toList) := by
            obtain ⟨s1, s2, s3, s4⟩ := setCells_same gr (Builtin.zeroCells #[.int .i64 0, .int .i64 0] (xs.length - i)).toList (i * 2) wr
            exact HB1.out.trans ⟨s1, s2, s3, Nat.le_of_eq s4.symm, fun k hk => setCells_far _ _ k (by omega)⟩
          have hsz : gr < (wr.setCells gr (i * 2) (Builtin.zeroCells #[.int .i64 0, .int .i64 0] (xs.length - i)).toList).heap.size := by
            rw [(setCells_same gr _ (i * 2) wr).2.2.2]
            exact blk_lt HH.out
          refine ⟨rfl, ⟨_, _, by rw [HF.out], by rw [HF.out]; omega, fun W3 hW3 => ?_⟩, hbel⟩
          refine C_keep49 HR2.out (fun off hoff => ?_)
          rw [HF.out] at hoff
          have hc3 : W3.cell? ⟨gr, off, none⟩ = (wr.setCells gr (i * 2) (Builtin.zeroCells #[.int .i64 0, .int .i64 0] (xs.length - i)).toList).cell? ⟨gr, off, none⟩ := by
            unfold World.cell?
            rw [hW3 gr hg2 hsz]
          rw [hc3]
          exact World.cell?_setCells_out gr _ _ _ _ (fun _ _ => .inl hoff)
theorem delete_calls (id : Int) (g : Nat) (v : Value) (xs : List S49) (w W : World) (hxs : xs.length ≤ 1000000) (hR : Kd.R k49 49 W w.heap.size (fun _ => True) v xs) (hB : Below w.heap.size w W) (hbox : W.heap[g]? = some (.cells #[.int .i64 id] 3 (0, 0))) :
    Calls Try.prog 33 #[v, .func (.func 36) #[] #[.pointer (some ⟨g, 0, none⟩)]] W fun e w' => ∃ A c, e = .returned (.slice A (xs.filter (notId id)).length c) ∧ Kd.V k49 49 w' w.heap.size (fun k => w.heap.size ≤ k) (.slice A (xs.filter (notId id)).length c) (xs.filter (notId id)) ∧ Below w.heap.size w w' := by
  have hR' := hR
  obtain ⟨A, c, rfl⟩ := Kd.R_slice hR
  obtain ⟨_, inner, hown, _⟩ := hR
  rcases hown.2 with ⟨hv, h0⟩ | ⟨gr, cap, cur, hv, hg2, hh, hrest⟩
  · have h0 : xs = [] := List.length_eq_zero_iff.1 h0
    subst h0
    have hcI : W.cell? ⟨g, 0, none⟩ = some (.int .i64 id) := (blk_cell hbox 0).trans rfl
    have hC : Kd.C k49 W A ([] : List S49).length [] := ⟨rfl, by simp, fun h => absurd h (Nat.lt_irrefl 0)⟩
    have hcall := timer_Nap_35.calls 36 #[.pointer (some ⟨g, 0, none⟩)] enters36 (isOf id) 1 A c [] (-1) W (fun a b r W h hb => is1_calls id g a b r W (pw_cell_below hb hcI) h) hC (Nat.zero_le _) rfl
    clear hv hown hR' hbox hC hcI
    go_enter Try.func33, Try.ntmps33
    go_wp2_with (first | (go_at_call 35; refine hcall.mono ?_; rintro e w' ⟨rfl, hb⟩) | go_in)
    go_ret
    exact ⟨A, c, rfl, ⟨A, c, rfl, Nat.zero_le _, fun W' _ => ⟨rfl, by simp, fun h => absurd h (Nat.lt_irrefl 0)⟩⟩, below_step hB hb⟩
  · injection hv with h1 h2 h3
    subst h1 h3
    exact (delete_some id g gr c xs w W hxs hR' hB hbox).mono fun e w' ⟨he, hV, hb⟩ => ⟨_, _, he, hV, hb⟩
def timer_Drop.f (l0 : List (S49)) (a1 : Int) : Option (List S49 × Bool) := (timer_sane.f l0).bind fun s => if s.length ≤ 1000000 then some (s.filter (notId a1), decide (((s.filter (notId a1)).length : Int) < (s.length : Int))) else none
theorem timer_Drop.calls (A0 : Option Addr) (c0 : Nat) (l0 : List (S49)) (a1 : Int) (r1 : List (S49)) (r2 : Bool) (w : World) (hr0 : Kd.C k49 w A0 l0.length l0) (hc0 : l0.length ≤ c0) (h : timer_Drop.f l0 a1 = some (r1, r2)) :
    Calls Try.prog 16 #[.slice A0 l0.length c0, .int .i64 a1] w fun e w' => ∃ v0_ : Value, e = .returned (.tuple #[v0_, .bool r2]) ∧ Kd.V k49 49 w' w.heap.size (fun k_ => (w.heap.size ≤ k_)) v0_ r1 ∧ Below w.heap.size w w' := by
  obtain ⟨s, hs, h⟩ := Option.bind_eq_some_iff.mp h
  split at h
  · rename_i hbig
    simp only [Option.some.injEq, Prod.mk.injEq] at h
    obtain ⟨rfl, rfl⟩ := h
    have HV0 := Aside0.mk (Kd.V_mk (d := k49) (e := 49) (W := w) (base := w.heap.size) hc0 (Kd.C_F k49_heap hr0))
    clear hr0
    have hcl : timer_Nap_26.f s = some s := by
      unfold timer_Nap_26.f
      simp only [Option.bind_some, List.nil_append, List.length_nil, Nat.zero_add]
      rw [if_pos (by omega)]
    obtain ⟨L, hL⟩ : ∃ L, s.filter (notId a1) = L := ⟨_, rfl⟩
    have HL := Aside0.mk hL
    rw [hL]
    clear hL
    go_enter Try.func16, Try.ntmps16
    go_wp2_with (first
      | (go_at_call 22; refine (timer_sane.calls (fun k_ => k_ < w.heap.size) _ _ l0 s _ HV0.out hs).mono ?_; rintro e w1 ⟨v1, rfl, hV, hb1⟩; obtain ⟨A1, c1, rfl⟩ := Kd.V_slice hV; replace hV := Aside0.mk hV; replace hb1 := Aside0.mk hb1)
      | (go_at_call 26; refine (timer_Nap_26.calls A1 c1 s s _ (Kd.V_reads' hV.out).2.2 (Kd.V_reads' hV.out).2.1 hcl).mono ?_; rintro e w2 ⟨v2, rfl, hR2, hb2⟩; have hR3 := Aside0.mk (Kd.R_alloc (Kd.R_lower hR2 hb1.out.size) (.cells #[.int .i64 a1] 3)); have hB3 := Aside0.mk (below_alloc (below_step hb1.out hb2) (.cells #[.int .i64 a1] 3)); clear hR2 hb2)
      | (go_at_call 25; refine (is_calls a1 _).mono ?_; rintro e w' ⟨rfl, rfl⟩)
      | (go_at_call 33; refine (delete_calls a1 w2.heap.size v2 s w _ hbig hR3.out hB3.out (blk_new _ _)).mono ?_; rintro e w4 ⟨A4, c4, rfl, hV4, hB4⟩; rw [HL.out] at hV4 ⊢)
      | go_in)
    go_ret2
    exact ⟨_, by simp, hV4, hB4⟩
  · simp at h
end
-- timer_Nap_35.f timer_Sane.f timer_sane.f timer_Nap_26.f

end Go.Proofs.Ytinngbfkefaiiaa.P
