/-
  QueuePlays: the law's own walk: it answers true.
-/
import Derived.Test.YtnlnojolodnheaaQ6
import Derived.Test.YtnlnojolodnheaaA
namespace Go.Proofs.Ytnlnojolodnheaa.P
open Go.RowKit Go.Proofs.YtnlnojolodnheaaX Go.Proofs.YtnlnojolodnheaaF Go.Proofs.YtnlnojolodnheaaW.PrintWords Go.Proofs.YtnlnojolodnheaaW.PrintLast Go.Proofs.YtnlnojolodnheaaW.PrintMore
attribute [local go_sem] max2_int min2_int max_two min_two max_three min_three max_four min_four   -- for this text's walks alone
set_option linter.unusedVariables false
set_option linter.unusedSimpArgs false
/-- The queue and the eight Bools, where they lie. -/
structure St (w W : World) (gq gi : Nat) (n : Int) (A : Option Addr) (c : Nat) (L : List S60) : Prop where
  q : W.heap[gq]? = some (.cells #[.int .i64 n, .slice A L.length c] 29 (0, 0))
  i : W.heap[gi]? = some (.cells (arrB (inB L)) 55 (0, 0))
  v : Kd.V k60 60 W w.heap.size (fun k => k ≠ gq ∧ k ≠ gi) (.slice A L.length c) L
  b : Below w.heap.size w W
  lq : w.heap.size ≤ gq
  li : w.heap.size ≤ gi
  ne : gq ≠ gi
theorem St.below {w W W' : World} {gq gi : Nat} {n : Int} {A : Option Addr} {c : Nat} {L : List S60} (h : St w W gq gi n A c L) (hb : Below W.heap.size W W') : St w W' gq gi n A c L :=
  ⟨blk_below h.q hb, blk_below h.i hb, Kd.V_below h.v hb, below_step h.b hb, h.lq, h.li, h.ne⟩
/-- What a call hands back lies beside. -/
theorem St.res {w W W' : World} {gq gi : Nat} {n : Int} {A : Option Addr} {c : Nat} {L L' : List S60} {v : Value} (h : St w W gq gi n A c L) (ho : Kd.V k60 60 W' W.heap.size (fun k => (k ≠ gq ∧ k ≠ gi) ∨ W.heap.size ≤ k) v L') :
    Kd.V k60 60 W' w.heap.size (fun k => k ≠ gq ∧ k ≠ gi) v L' :=
  Kd.V_mono (show Kd.V k60 60 W' w.heap.size _ v L' from ho) (fun k hk => hk.elim id (fun hn => ⟨fun e => by have := blk_lt h.q; omega, fun e => by have := blk_lt h.i; omega⟩))
/-- Behind a step: the two blocks are as the result says. -/
theorem St.fin {w W : World} {gq gi g : Nat} {n n' : Int} {A A' : Option Addr} {c c' : Nat} {L L' : List S60} (h : St w W gq gi n A c L) (hg : w.heap.size ≤ g) (h1 : g ≠ gq) (h2 : g ≠ gi)
    (hv : Kd.V k60 60 W w.heap.size (fun k => (k ≠ gq ∧ k ≠ gi) ∧ k ≠ g) (.slice A' L'.length c') L') (k : Nat) (z : Bool) (hs : (arrB (inB L)).setIfInBounds k (.bool z) = arrB (inB L')) :
    St w (((((W.setCell ⟨g, 0, none⟩ (.int .i64 n')).setCell ⟨g, 1, none⟩ (.slice A' L'.length c')).setCell ⟨gi, k, none⟩ (.bool z)).setCell ⟨gq, 0, none⟩ (.int .i64 n')).setCell ⟨gq, 1, none⟩ (.slice A' L'.length c')) gq gi n' A' c' L' := by
  refine ⟨?_, ?_, ?_, ?_, h.lq, h.li, h.ne⟩
  · exact blk_put (blk_put (blk_far (blk_far (blk_far h.q (Ne.symm h1) _) (Ne.symm h1) _) h.ne _) 0 _ rfl) 1 _ rfl
  · exact blk_far (blk_far (blk_put (blk_far (blk_far h.i (Ne.symm h2) _) (Ne.symm h2) _) k _ hs) (Ne.symm h.ne) _) (Ne.symm h.ne) _
  · exact Kd.V_mono (Kd.V_far (p := ⟨gq, 1, none⟩) (Kd.V_far (p := ⟨gq, 0, none⟩) (Kd.V_far (p := ⟨gi, k, none⟩) (Kd.V_far (p := ⟨g, 1, none⟩) (Kd.V_far (p := ⟨g, 0, none⟩) hv (fun k hk => hk.2) _) (fun k hk => hk.2) _) (fun k hk => hk.1.2) _) (fun k hk => hk.1.1) _) (fun k hk => hk.1.1) _) (fun k hk => hk.1)
  · exact ((((h.b.setCell hg _).setCell hg _).setCell h.li _).setCell h.lq _).setCell h.lq _
theorem St.fin0 {w W : World} {gq gi g : Nat} {n n' : Int} {A A' : Option Addr} {c c' : Nat} {L : List S60} (h : St w W gq gi n A c L) (hg : w.heap.size ≤ g) (h1 : g ≠ gq) (h2 : g ≠ gi)
    (hv : Kd.V k60 60 W w.heap.size (fun k => (k ≠ gq ∧ k ≠ gi) ∧ k ≠ g) (.slice A' L.length c') L) :
    St w ((((W.setCell ⟨g, 0, none⟩ (.int .i64 n')).setCell ⟨g, 1, none⟩ (.slice A' L.length c')).setCell ⟨gq, 0, none⟩ (.int .i64 n')).setCell ⟨gq, 1, none⟩ (.slice A' L.length c')) gq gi n' A' c' L := by
  refine ⟨?_, ?_, ?_, ?_, h.lq, h.li, h.ne⟩
  · exact blk_put (blk_put (blk_far (blk_far h.q (Ne.symm h1) _) (Ne.symm h1) _) 0 _ rfl) 1 _ rfl
  · exact blk_far (blk_far (blk_far (blk_far h.i (Ne.symm h2) _) (Ne.symm h2) _) (Ne.symm h.ne) _) (Ne.symm h.ne) _
  · exact Kd.V_mono (Kd.V_far (p := ⟨gq, 1, none⟩) (Kd.V_far (p := ⟨gq, 0, none⟩) (Kd.V_far (p := ⟨g, 1, none⟩) (Kd.V_far (p := ⟨g, 0, none⟩) hv (fun k hk => hk.2) _) (fun k hk => hk.2) _) (fun k hk => hk.1.1) _) (fun k hk => hk.1.1) _) (fun k hk => hk.1)
  · exact (((h.b.setCell hg _).setCell hg _).setCell h.lq _).setCell h.lq _
theorem St.start {w W : World} (hb : Below w.heap.size w W) :
    St w ((W.alloc (.cells #[.int .i64 0, .slice none 0 0] 29)).alloc (.cells #[.bool false, .bool false, .bool false, .bool false, .bool false, .bool false, .bool false, .bool false] 55)) W.heap.size (W.heap.size + 1) 0 none 0 [] := by
  have hs := below_size hb
  have hz : (W.alloc (.cells #[.int .i64 0, .slice none 0 0] 29)).heap.size = W.heap.size + 1 := by simp
  refine ⟨blk_alloc (blk_new W _) _, ?_, Kd.V_nil _ _ _ _ _, below_alloc (below_alloc hb _) _, hs, by omega, by omega⟩
  have := blk_new (W.alloc (.cells #[.int .i64 0, .slice none 0 0] 29)) (.cells #[.bool false, .bool false, .bool false, .bool false, .bool false, .bool false, .bool false, .bool false] 55)
  rw [hz] at this
  exact this
theorem St.box {w W W' : World} {gq gi g : Nat} {n : Int} {A A' : Option Addr} {c c' : Nat} {L L' : List S60} (h : St w W gq gi n A c L) (hv : Kd.V k60 60 W w.heap.size (fun k => k ≠ gq ∧ k ≠ gi) (.slice A' L'.length c') L')
    (hg : g = W.heap.size) (hb : Below W.heap.size W W') : St w W' gq gi n A c L ∧ Kd.V k60 60 W' w.heap.size (fun k => (k ≠ gq ∧ k ≠ gi) ∧ k ≠ g) (.slice A' L'.length c') L' ∧ w.heap.size ≤ g ∧ g ≠ gq ∧ g ≠ gi :=
  ⟨h.below hb, Kd.V_below (Kd.V_elderB hv g (Nat.le_of_eq hg.symm)) hb, by have := below_size h.b; omega, by have := blk_lt h.q; omega, by have := blk_lt h.i; omega⟩
theorem take_call {w W : World} {gq gi : Nat} {n n' z : Int} {A : Option Addr} {c : Nat} {L L' : List S60} {ok : Bool} (h : St w W gq gi n A c L) (hf : queue_Take.f 100 n L = some (n', L', z, ok)) :
    Calls Try.prog 11 #[.agg #[.int .i64 n, .slice A L.length c]] W fun e w' => ∃ A' c', e = .returned (.tuple #[.agg #[.int .i64 n', .slice A' L'.length c'], .int .i64 z, .bool ok]) ∧ St w w' gq gi n A c L ∧ Kd.V k60 60 w' w.heap.size (fun k => k ≠ gq ∧ k ≠ gi) (.slice A' L'.length c') L' := by
  refine (queue_Take.calls 100 n (fun k => k ≠ gq ∧ k ≠ gi) A c L n' L' z ok W (show Kd.V k60 60 W W.heap.size _ _ _ from h.v) hf).mono ?_
  rintro e w' ⟨v, rfl, h1, h2⟩
  obtain ⟨A', c', rfl⟩ := Kd.V_slice h1
  exact ⟨A', c', rfl, h.below h2, h.res h1⟩
theorem drop_call {w W : World} {gq gi : Nat} {n n' z : Int} {A : Option Addr} {c : Nat} {L L' : List S60} {ok : Bool} (h : St w W gq gi n A c L) (hf : queue_Drop.f 100 n L z = some (n', L', ok)) :
    Calls Try.prog 15 #[.agg #[.int .i64 n, .slice A L.length c], .int .i64 z] W fun e w' => ∃ A' c', e = .returned (.tuple #[.agg #[.int .i64 n', .slice A' L'.length c'], .bool ok]) ∧ St w w' gq gi n A c L ∧ Kd.V k60 60 w' w.heap.size (fun k => k ≠ gq ∧ k ≠ gi) (.slice A' L'.length c') L' := by
  refine (queue_Drop.calls 100 n (fun k => k ≠ gq ∧ k ≠ gi) A c L z n' L' ok W (show Kd.V k60 60 W W.heap.size _ _ _ from h.v) hf).mono ?_
  rintro e w' ⟨v, rfl, h1, h2⟩
  obtain ⟨A', c', rfl⟩ := Kd.V_slice h1
  exact ⟨A', c', rfl, h.below h2, h.res h1⟩
theorem put_call {w W : World} {gq gi : Nat} {n n' z y : Int} {A : Option Addr} {c : Nat} {L L' : List S60} {ok : Bool} (h : St w W gq gi n A c L) (hf : queue_Put.f 100 n L z y = some (n', L', ok)) :
    Calls Try.prog 13 #[.agg #[.int .i64 n, .slice A L.length c], .int .i64 z, .int .i64 y] W fun e w' => ∃ A' c', e = .returned (.tuple #[.agg #[.int .i64 n', .slice A' L'.length c'], .bool ok]) ∧ St w w' gq gi n A c L ∧ Kd.V k60 60 w' w.heap.size (fun k => k ≠ gq ∧ k ≠ gi) (.slice A' L'.length c') L' := by
  refine (queue_Put.calls 100 n (fun k => k ≠ gq ∧ k ≠ gi) A c L z y n' L' ok W (show Kd.V k60 60 W W.heap.size _ _ _ from h.v) hf).mono ?_
  rintro e w' ⟨v, rfl, h1, h2⟩
  obtain ⟨A', c', rfl⟩ := Kd.V_slice h1
  exact ⟨A', c', rfl, h.below h2, h.res h1⟩

set_option maxHeartbeats 8000000 in
set_option maxRecDepth 100000 in
theorem plays_calls (A0 : Option Addr) (c0 : Nat) (ws : List Int) (w : World) (hr0 : Kd.C (Kd.int .i64) w A0 ws.length ws) (hc0 : ws.length ≤ c0) :
    Calls Try.prog 7 #[.slice A0 ws.length c0] w fun e w' => e = .returned (.bool true) ∧ Below w.heap.size w w' := by
  have HR0 := Aside0.mk hr0
  have hmx : ws.length ≤ 9223372036854775807 := Kd.C_max hr0
  have hu29 := Try.underlying29
  clear hr0 hc0
  have HA := Aside0.mk (fun W => tenterhooklaw16_awake.calls 100 true W (awake_eq 100 (Nat.le_refl _)))
  by_cases hbig : (ws.length : Int) > 200
  · have hb : decide ((200 : Int) < (ws.length : Int)) = true := decide_eq_true (by omega)
    clear hbig
    go_enter Try.func7, Try.ntmps7
    go_wp2_with (first | (go_at_call 8; refine (HA.out _).mono ?_; rintro e w' ⟨rfl, hB⟩; replace hB := Aside0.mk hB) | go_in)
    go_ret
    exact ⟨rfl, hB.out⟩
  · have hn : ws.length ≤ 200 := by omega
    have hb : decide ((200 : Int) < (ws.length : Int)) = false := decide_eq_false (by omega)
    have HN := Aside0.mk hn
    clear hbig
    go_enter Try.func7, Try.ntmps7
    go_wp2_with (first | (go_at_call 8; refine (HA.out _).mono ?_; rintro e w1 ⟨rfl, hB⟩; replace hB := Aside0.mk hB) | go_in)
    have HS := Aside0.mk (St.start hB.out)
    obtain ⟨W0, hW0⟩ : ∃ W0, (w1.alloc (.cells #[.int .i64 0, .slice none 0 0] 29)).alloc (.cells #[.bool false, .bool false, .bool false, .bool false, .bool false, .bool false, .bool false, .bool false] 55) = W0 := ⟨_, rfl⟩
    rw [hW0] at HS ⊢
    obtain ⟨gi, hgi⟩ : ∃ g, w1.heap.size + 1 = g := ⟨_, rfl⟩
    rw [hgi] at HS ⊢
    obtain ⟨gq, hgq⟩ : ∃ g, w1.heap.size = g := ⟨_, rfl⟩
    rw [hgq] at HS ⊢
    clear hW0 hgi hgq hB
    go_loopg [6] (ws.length + 1) (fun kq v6 wr => ∃ (i : Nat) (n : Int) (A : Option Addr) (c : Nat) (L : List S60), v6 = .int .i64 i ∧ kq + i = ws.length + 1 ∧ i ≤ ws.length ∧ n ≤ i ∧ Aside0 (OkQ n L) ∧ Aside0 (St w wr gq gi n A c L))
    case atStart => exact ⟨0, 0, none, 0, [], rfl, rfl, Nat.zero_le _, by omega, ⟨OkQ.zero⟩, HS⟩
    case round =>
      obtain ⟨i, n, A, c, L, rfl, hk, hi, hni, HOK, HS⟩ := hrel
      have HNI := Aside0.mk hni
      clear hni
      by_cases hlt : i < ws.length
      · have hlt' : ((i : Int) < (ws.length : Int)) = True := eq_true (by omega)
        have hi0 : (0 ≤ (i : Int)) = True := eq_true (by omega)
        obtain ⟨ad, e0, hx⟩ := Kd.at_int HR0.out (i : Int) (by omega) (by omega)
        subst e0
        replace hx := (HS.out.b.cell (World.block_lt_of_cell? w _ hx)).trans hx
        rw [Int.toNat_natCast] at hx
        have hd := and_maskI6 (rd ws (i : Int)) 7 (by omega) (by omega)
        have hp := and_maskI6 (rd ws (i : Int) / 8) 3 (by omega) (by omega)
        obtain ⟨d, hd_⟩ : ∃ d, Go.bits .and .i64 (rd ws (i : Int)) 7 = d := ⟨_, rfl⟩
        obtain ⟨p, hp_⟩ : ∃ p, Go.bits .and .i64 (rd ws (i : Int) / 8) 3 = p := ⟨_, rfl⟩
        obtain ⟨s, hs_⟩ : ∃ s, Go.bits .and .i64 (rd ws (i : Int) / 32) 3 = s := ⟨_, rfl⟩
        rw [hd_] at hd
        rw [hp_] at hp
        obtain ⟨dn, rfl⟩ : ∃ dn : Nat, d = dn := ⟨d.toNat, by omega⟩
        have HD := Aside0.mk (show dn < 8 by omega)
        have HPR := Aside0.mk hp
        clear hd hp
        cases gk with
        | zero => omega
        | succ gk =>
        go_upto_block 2 with fail
        clear hd_ hp_ hs_ hx
        go_cut [2] (fun v2 wc => ∃ (n' : Int) (A' : Option Addr) (c' : Nat) (L' : List S60), v2 = u2 ∧ Aside0 (n' ≤ n + 1) ∧ Aside0 (OkQ n' L') ∧ Aside0 (St w wc gq gi n' A' c' L'))
        case first =>
          have hc0 : wr.cell? ⟨gq, 0, none⟩ = some (.int .i64 n) := (blk_cell HS.out.q 0).trans rfl
          have hc1 : wr.cell? ⟨gq, 1, none⟩ = some (.slice A L.length c) := (blk_cell HS.out.q 1).trans rfl
          by_cases h0 : s = 0
          · subst h0
            by_cases hL : L = []
            · have htk : queue_Take.f 100 n L = some (n, L, 0, false) := by
                have := take_nil n (by rw [← hL]; exact HOK.out) 100 (by omega)
                rw [← hL] at this
                exact this
              have HC := Aside0.mk (take_call HS.out htk)
              clear htk hL
              go_wp2_with (first | ((with_reducible refine gate_callee (f := 11) rfl ?_); refine goesL_ (some 68) rfl rfl Try.func11 (by kernel_rfl) rfl #[.agg #[.int .i64 n, .slice A L.length c]] rfl (by (try simp only [List.map_toArray, List.map_cons, List.map_nil]); first | done | rfl) ?_; refine HC.out.mono ?_; rintro e w2 ⟨A2, c2, rfl, hS2, hV2⟩; refine ⟨_, rfl, ?_⟩; replace hS2 := Aside0.mk hS2; replace hV2 := Aside0.mk hV2) | ((with_reducible refine gate_dst (N := 9) rfl ?_); (try (refine gate_guard (by rfl) ?_; dsimp only)); refine box_event ?hg (N := 9) ?hd (cs := #[.int .i64 0, .slice none 0 0]) (t := 29) ?hr ?_; (case hd => rfl); (case hg => rfl); (case hr => first | (go_simp; done) | (go_simp; rfl)); intro g hg w3 hbox hb; have HG3 := Aside0.mk (hS2.out.box hV2.out hg hb); clear hg hb; have n1 := HG3.out.2.2.2.1; have n2 := HG3.out.2.2.2.2; have n3 := HG3.out.2.2.2.1.symm; have n4 := HG3.out.2.2.2.2.symm; have n5 := HG3.out.1.ne; have n6 := HG3.out.1.ne.symm; have a0 := (blk_cell hbox 0).trans rfl; have a1 := (blk_cell hbox 1).trans rfl; have f0 := blk_frozen hbox 0; have f1 := blk_frozen hbox 1; replace a0 : w3.cell? ⟨g, 0, none⟩ = some (.int .i64 0) := a0; replace a1 : w3.cell? ⟨g, 1, none⟩ = some (.slice none 0 0) := a1; clear hbox; have b0 : w3.cell? ⟨gq, 0, none⟩ = some (.int .i64 n) := (blk_cell HG3.out.1.q 0).trans rfl; have b1 : w3.cell? ⟨gq, 1, none⟩ = some (.slice A L.length c) := (blk_cell HG3.out.1.q 1).trans rfl; have f2 := blk_frozen HG3.out.1.q 0; have f3 := blk_frozen HG3.out.1.q 1) | go_in)
              go_meet
              case rel => exact ⟨n, A2, c2, L, rfl, ⟨by omega⟩, HOK, ⟨St.fin0 HG3.out.1 HG3.out.2.2.1 HG3.out.2.2.2.1 HG3.out.2.2.2.2 HG3.out.2.1⟩⟩
            · obtain ⟨x, r, rfl⟩ := List.exists_cons_of_ne_nil hL
              clear hL
              have hst := take_step HOK.out
              have htk := take_cons HOK.out 100 (by omega)
              obtain ⟨x0, x1, x2⟩ := x
              obtain ⟨hx0, hx8, hin, hst⟩ := hst
              simp only at hx0 hx8 hin hst htk
              obtain ⟨kx, rfl⟩ : ∃ kx : Nat, x0 = kx := ⟨x0.toNat, by omega⟩
              rw [Int.toNat_natCast] at hin hst
              have HST := Aside0.mk hst
              have HI := Aside0.mk hin
              have HK := Aside0.mk (show kx < 8 by omega)
              have q1 : decide ((kx : Int) < 0) = false := decide_eq_false (by omega)
              have q2 : decide ((7 : Int) < (kx : Int)) = false := decide_eq_false (by omega)
              have q3 : (0 ≤ (kx : Int)) = True := eq_true (by omega)
              have q4 : ((kx : Int) < 8) = True := eq_true (by omega)
              have HC := Aside0.mk (take_call HS.out htk)
              clear hst htk hin hx0 hx8
              go_wp2_with (first | ((with_reducible refine gate_callee (f := 11) rfl ?_); refine goesL_ (some 68) rfl rfl Try.func11 (by kernel_rfl) rfl #[.agg #[.int .i64 n, .slice A ((⟨(kx : Int), x1, x2⟩ : S60) :: r).length c]] rfl (by (try simp only [List.map_toArray, List.map_cons, List.map_nil]); first | done | rfl) ?_; refine HC.out.mono ?_; rintro e w2 ⟨A2, c2, rfl, hS2, hV2⟩; refine ⟨_, rfl, ?_⟩; replace hS2 := Aside0.mk hS2; replace hV2 := Aside0.mk hV2) | ((with_reducible refine gate_dst (N := 9) rfl ?_); (try (refine gate_guard (by rfl) ?_; dsimp only)); refine box_event ?hg (N := 9) ?hd (cs := #[.int .i64 0, .slice none 0 0]) (t := 29) ?hr ?_; (case hd => rfl); (case hg => rfl); (case hr => first | (go_simp; done) | (go_simp; rfl)); intro g hg w3 hbox hb; have HG3 := Aside0.mk (hS2.out.box hV2.out hg hb); clear hg hb; have n1 := HG3.out.2.2.2.1; have n2 := HG3.out.2.2.2.2; have n3 := HG3.out.2.2.2.1.symm; have n4 := HG3.out.2.2.2.2.symm; have n5 := HG3.out.1.ne; have n6 := HG3.out.1.ne.symm; have a0 := (blk_cell hbox 0).trans rfl; have a1 := (blk_cell hbox 1).trans rfl; have f0 := blk_frozen hbox 0; have f1 := blk_frozen hbox 1; replace a0 : w3.cell? ⟨g, 0, none⟩ = some (.int .i64 0) := a0; replace a1 : w3.cell? ⟨g, 1, none⟩ = some (.slice none 0 0) := a1; clear hbox; have b0 : w3.cell? ⟨gq, 0, none⟩ = some (.int .i64 n) := (blk_cell HG3.out.1.q 0).trans rfl; have b1 : w3.cell? ⟨gq, 1, none⟩ = some (.slice A ((⟨(kx : Int), x1, x2⟩ : S60) :: r).length c) := (blk_cell HG3.out.1.q 1).trans rfl; have f2 := blk_frozen HG3.out.1.q 0; have f3 := blk_frozen HG3.out.1.q 1; have b2 : w3.cell? ⟨gi, kx, none⟩ = some (.bool true) := ((blk_cell HG3.out.1.i kx).trans (arrB_get _ _ HK.out)).trans (congrArg (fun z => some (Value.bool z)) HI.out); have f4 := blk_frozen HG3.out.1.i kx) | go_in)
              go_meet
              case rel => exact ⟨n, A2, c2, r, rfl, ⟨by omega⟩, ⟨HST.out.ok⟩, ⟨St.fin HG3.out.1 HG3.out.2.2.1 HG3.out.2.2.2.1 HG3.out.2.2.2.2 HG3.out.2.1 kx false HST.out.arr⟩⟩
          · have h0b : (s == 0) = false := by rw [beq_eq_false_iff_ne]; exact h0
            have h0d : decide (s = 0) = false := decide_eq_false h0
            clear h0
            have q3 : (0 ≤ (dn : Int)) = True := eq_true (by omega)
            have q4 : ((dn : Int) < 8) = True := eq_true (by have := HD.out; omega)
            have HK := HD
            by_cases h1 : s = 1
            · subst h1
              obtain ⟨L2, hdr, hst⟩ := drop_step HOK.out dn HD.out
              have HST := Aside0.mk hst
              clear hst
              obtain ⟨z, hz⟩ : ∃ z, inB L dn = z := ⟨_, rfl⟩
              rw [hz] at hdr
              have HI := Aside0.mk hz
              clear hz
              have HC := Aside0.mk (drop_call HS.out hdr)
              clear hdr
              cases z
              · go_wp2_with (first | ((with_reducible refine gate_callee (f := 15) rfl ?_); refine goesL_ (some 96) rfl rfl Try.func15 (by kernel_rfl) rfl #[.agg #[.int .i64 n, .slice A L.length c], .int .i64 dn] rfl (by (try simp only [List.map_toArray, List.map_cons, List.map_nil]); first | done | rfl) ?_; refine HC.out.mono ?_; rintro e w2 ⟨A2, c2, rfl, hS2, hV2⟩; refine ⟨_, rfl, ?_⟩; replace hS2 := Aside0.mk hS2; replace hV2 := Aside0.mk hV2) | ((with_reducible refine gate_dst (N := 12) rfl ?_); (try (refine gate_guard (by rfl) ?_; dsimp only)); refine box_event ?hg (N := 12) ?hd (cs := #[.int .i64 0, .slice none 0 0]) (t := 29) ?hr ?_; (case hd => rfl); (case hg => rfl); (case hr => first | (go_simp; done) | (go_simp; rfl)); intro g hg w3 hbox hb; have HG3 := Aside0.mk (hS2.out.box hV2.out hg hb); clear hg hb; have n1 := HG3.out.2.2.2.1; have n2 := HG3.out.2.2.2.2; have n3 := HG3.out.2.2.2.1.symm; have n4 := HG3.out.2.2.2.2.symm; have n5 := HG3.out.1.ne; have n6 := HG3.out.1.ne.symm; have a0 := (blk_cell hbox 0).trans rfl; have a1 := (blk_cell hbox 1).trans rfl; have f0 := blk_frozen hbox 0; have f1 := blk_frozen hbox 1; replace a0 : w3.cell? ⟨g, 0, none⟩ = some (.int .i64 0) := a0; replace a1 : w3.cell? ⟨g, 1, none⟩ = some (.slice none 0 0) := a1; clear hbox; have b0 : w3.cell? ⟨gq, 0, none⟩ = some (.int .i64 n) := (blk_cell HG3.out.1.q 0).trans rfl; have b1 : w3.cell? ⟨gq, 1, none⟩ = some (.slice A L.length c) := (blk_cell HG3.out.1.q 1).trans rfl; have f2 := blk_frozen HG3.out.1.q 0; have f3 := blk_frozen HG3.out.1.q 1; have b2 : w3.cell? ⟨gi, dn, none⟩ = some (.bool false) := ((blk_cell HG3.out.1.i dn).trans (arrB_get _ _ HK.out)).trans (congrArg (fun z => some (Value.bool z)) HI.out); have f4 := blk_frozen HG3.out.1.i dn) | go_in)
                go_meet
                case rel => exact ⟨n, A2, c2, L2, rfl, ⟨by omega⟩, ⟨HST.out.ok⟩, ⟨St.fin HG3.out.1 HG3.out.2.2.1 HG3.out.2.2.2.1 HG3.out.2.2.2.2 HG3.out.2.1 dn false HST.out.arr⟩⟩
              · go_wp2_with (first | ((with_reducible refine gate_callee (f := 15) rfl ?_); refine goesL_ (some 96) rfl rfl Try.func15 (by kernel_rfl) rfl #[.agg #[.int .i64 n, .slice A L.length c], .int .i64 dn] rfl (by (try simp only [List.map_toArray, List.map_cons, List.map_nil]); first | done | rfl) ?_; refine HC.out.mono ?_; rintro e w2 ⟨A2, c2, rfl, hS2, hV2⟩; refine ⟨_, rfl, ?_⟩; replace hS2 := Aside0.mk hS2; replace hV2 := Aside0.mk hV2) | ((with_reducible refine gate_dst (N := 12) rfl ?_); (try (refine gate_guard (by rfl) ?_; dsimp only)); refine box_event ?hg (N := 12) ?hd (cs := #[.int .i64 0, .slice none 0 0]) (t := 29) ?hr ?_; (case hd => rfl); (case hg => rfl); (case hr => first | (go_simp; done) | (go_simp; rfl)); intro g hg w3 hbox hb; have HG3 := Aside0.mk (hS2.out.box hV2.out hg hb); clear hg hb; have n1 := HG3.out.2.2.2.1; have n2 := HG3.out.2.2.2.2; have n3 := HG3.out.2.2.2.1.symm; have n4 := HG3.out.2.2.2.2.symm; have n5 := HG3.out.1.ne; have n6 := HG3.out.1.ne.symm; have a0 := (blk_cell hbox 0).trans rfl; have a1 := (blk_cell hbox 1).trans rfl; have f0 := blk_frozen hbox 0; have f1 := blk_frozen hbox 1; replace a0 : w3.cell? ⟨g, 0, none⟩ = some (.int .i64 0) := a0; replace a1 : w3.cell? ⟨g, 1, none⟩ = some (.slice none 0 0) := a1; clear hbox; have b0 : w3.cell? ⟨gq, 0, none⟩ = some (.int .i64 n) := (blk_cell HG3.out.1.q 0).trans rfl; have b1 : w3.cell? ⟨gq, 1, none⟩ = some (.slice A L.length c) := (blk_cell HG3.out.1.q 1).trans rfl; have f2 := blk_frozen HG3.out.1.q 0; have f3 := blk_frozen HG3.out.1.q 1; have b2 : w3.cell? ⟨gi, dn, none⟩ = some (.bool true) := ((blk_cell HG3.out.1.i dn).trans (arrB_get _ _ HK.out)).trans (congrArg (fun z => some (Value.bool z)) HI.out); have f4 := blk_frozen HG3.out.1.i dn) | go_in)
                go_meet
                case rel => exact ⟨n, A2, c2, L2, rfl, ⟨by omega⟩, ⟨HST.out.ok⟩, ⟨St.fin HG3.out.1 HG3.out.2.2.1 HG3.out.2.2.2.1 HG3.out.2.2.2.2 HG3.out.2.1 dn false HST.out.arr⟩⟩
            · have h1b : (s == 1) = false := by rw [beq_eq_false_iff_ne]; exact h1
              have h1d : decide (s = 1) = false := decide_eq_false h1
              clear h1
              obtain ⟨m2, L2, hpt, hst⟩ := put_step HOK.out (by have := HNI.out; omega) dn HD.out p HPR.out.1 (by have := HPR.out; omega)
              have HST := Aside0.mk hst
              clear hst
              obtain ⟨z, hz⟩ : ∃ z, inB L dn = z := ⟨_, rfl⟩
              rw [hz] at hpt
              have HI := Aside0.mk hz
              clear hz
              have HC := Aside0.mk (put_call HS.out hpt)
              clear hpt
              cases z
              · go_wp2_with (first | ((with_reducible refine gate_callee (f := 13) rfl ?_); refine goesL_ (some 53) rfl rfl Try.func13 (by kernel_rfl) rfl #[.agg #[.int .i64 n, .slice A L.length c], .int .i64 dn, .int .i64 p] rfl (by (try simp only [List.map_toArray, List.map_cons, List.map_nil]); first | done | rfl) ?_; refine HC.out.mono ?_; rintro e w2 ⟨A2, c2, rfl, hS2, hV2⟩; refine ⟨_, rfl, ?_⟩; replace hS2 := Aside0.mk hS2; replace hV2 := Aside0.mk hV2) | ((with_reducible refine gate_dst (N := 14) rfl ?_); (try (refine gate_guard (by rfl) ?_; dsimp only)); refine box_event ?hg (N := 14) ?hd (cs := #[.int .i64 0, .slice none 0 0]) (t := 29) ?hr ?_; (case hd => rfl); (case hg => rfl); (case hr => first | (go_simp; done) | (go_simp; rfl)); intro g hg w3 hbox hb; have HG3 := Aside0.mk (hS2.out.box hV2.out hg hb); clear hg hb; have n1 := HG3.out.2.2.2.1; have n2 := HG3.out.2.2.2.2; have n3 := HG3.out.2.2.2.1.symm; have n4 := HG3.out.2.2.2.2.symm; have n5 := HG3.out.1.ne; have n6 := HG3.out.1.ne.symm; have a0 := (blk_cell hbox 0).trans rfl; have a1 := (blk_cell hbox 1).trans rfl; have f0 := blk_frozen hbox 0; have f1 := blk_frozen hbox 1; replace a0 : w3.cell? ⟨g, 0, none⟩ = some (.int .i64 0) := a0; replace a1 : w3.cell? ⟨g, 1, none⟩ = some (.slice none 0 0) := a1; clear hbox; have b0 : w3.cell? ⟨gq, 0, none⟩ = some (.int .i64 n) := (blk_cell HG3.out.1.q 0).trans rfl; have b1 : w3.cell? ⟨gq, 1, none⟩ = some (.slice A L.length c) := (blk_cell HG3.out.1.q 1).trans rfl; have f2 := blk_frozen HG3.out.1.q 0; have f3 := blk_frozen HG3.out.1.q 1; have b2 : w3.cell? ⟨gi, dn, none⟩ = some (.bool false) := ((blk_cell HG3.out.1.i dn).trans (arrB_get _ _ HK.out)).trans (congrArg (fun z => some (Value.bool z)) HI.out); have f4 := blk_frozen HG3.out.1.i dn) | go_in)
                go_meet
                case rel => exact ⟨m2, A2, c2, L2, rfl, ⟨HST.out.le⟩, ⟨HST.out.ok⟩, ⟨St.fin HG3.out.1 HG3.out.2.2.1 HG3.out.2.2.2.1 HG3.out.2.2.2.2 HG3.out.2.1 dn true HST.out.arr⟩⟩
              · go_wp2_with (first | ((with_reducible refine gate_callee (f := 13) rfl ?_); refine goesL_ (some 53) rfl rfl Try.func13 (by kernel_rfl) rfl #[.agg #[.int .i64 n, .slice A L.length c], .int .i64 dn, .int .i64 p] rfl (by (try simp only [List.map_toArray, List.map_cons, List.map_nil]); first | done | rfl) ?_; refine HC.out.mono ?_; rintro e w2 ⟨A2, c2, rfl, hS2, hV2⟩; refine ⟨_, rfl, ?_⟩; replace hS2 := Aside0.mk hS2; replace hV2 := Aside0.mk hV2) | ((with_reducible refine gate_dst (N := 14) rfl ?_); (try (refine gate_guard (by rfl) ?_; dsimp only)); refine box_event ?hg (N := 14) ?hd (cs := #[.int .i64 0, .slice none 0 0]) (t := 29) ?hr ?_; (case hd => rfl); (case hg => rfl); (case hr => first | (go_simp; done) | (go_simp; rfl)); intro g hg w3 hbox hb; have HG3 := Aside0.mk (hS2.out.box hV2.out hg hb); clear hg hb; have n1 := HG3.out.2.2.2.1; have n2 := HG3.out.2.2.2.2; have n3 := HG3.out.2.2.2.1.symm; have n4 := HG3.out.2.2.2.2.symm; have n5 := HG3.out.1.ne; have n6 := HG3.out.1.ne.symm; have a0 := (blk_cell hbox 0).trans rfl; have a1 := (blk_cell hbox 1).trans rfl; have f0 := blk_frozen hbox 0; have f1 := blk_frozen hbox 1; replace a0 : w3.cell? ⟨g, 0, none⟩ = some (.int .i64 0) := a0; replace a1 : w3.cell? ⟨g, 1, none⟩ = some (.slice none 0 0) := a1; clear hbox; have b0 : w3.cell? ⟨gq, 0, none⟩ = some (.int .i64 n) := (blk_cell HG3.out.1.q 0).trans rfl; have b1 : w3.cell? ⟨gq, 1, none⟩ = some (.slice A L.length c) := (blk_cell HG3.out.1.q 1).trans rfl; have f2 := blk_frozen HG3.out.1.q 0; have f3 := blk_frozen HG3.out.1.q 1; have b2 : w3.cell? ⟨gi, dn, none⟩ = some (.bool true) := ((blk_cell HG3.out.1.i dn).trans (arrB_get _ _ HK.out)).trans (congrArg (fun z => some (Value.bool z)) HI.out); have f4 := blk_frozen HG3.out.1.i dn) | go_in)
                go_meet
                case rel => exact ⟨m2, A2, c2, L2, rfl, ⟨HST.out.le⟩, ⟨HST.out.ok⟩, ⟨St.fin HG3.out.1 HG3.out.2.2.1 HG3.out.2.2.2.1 HG3.out.2.2.2.2 HG3.out.2.1 dn true HST.out.arr⟩⟩
        case rest =>
          obtain ⟨n', A', c', L', rfl, HN', HOK', HS'⟩ := hcut
          have hc0 : wc.cell? ⟨gq, 0, none⟩ = some (.int .i64 n') := (blk_cell HS'.out.q 0).trans rfl
          have hc1 : wc.cell? ⟨gq, 1, none⟩ = some (.slice A' L'.length c') := (blk_cell HS'.out.q 1).trans rfl
          have HC := Aside0.mk (queue_Ids.calls 100 n' A' c' L' _ wc (Kd.V_reads' HS'.out.v).2.2 (Kd.V_reads' HS'.out.v).2.1 (ids_ok HOK'.out 100 (by omega)))
          go_wp2_with (first | (go_at_call 14; refine HC.out.mono ?_; rintro e w3 ⟨v, rfl, hR, hB3⟩; obtain ⟨A3, c3, e3⟩ := Kd.R_slice hR; rw [List.length_map] at e3; subst e3; clear hR; have HS3 := Aside0.mk (HS'.out.below hB3); clear hB3) | go_in)
          clear hc0 hc1
          go_loopg [17, 18] 9 (fun kq v17 v18 wq => ∃ j : Nat, v18 = .int .i64 j ∧ v17 = .int .i64 (cntB (inB L') j : Nat) ∧ kq + j = 9 ∧ j ≤ 8 ∧ wq = w3)
          case atStart => exact ⟨0, rfl, rfl, rfl, by omega, rfl⟩
          case round =>
            obtain ⟨j, rfl, rfl, hkj, hj, rfl⟩ := hrel
            cases gk with
            | zero => omega
            | succ gk2 =>
            by_cases hj8 : j < 8
            · have q4 : ((j : Int) < 8) = True := eq_true (by omega)
              have q3 : (0 ≤ (j : Int)) = True := eq_true (by omega)
              have hb2 : wr.cell? ⟨gi, j, none⟩ = some (.bool (inB L' j)) := (blk_cell HS3.out.i j).trans (arrB_get _ _ hj8)
              have hcl : cntB (inB L') j ≤ j := cntB_le _ j
              have hcs : cntB (inB L') (j + 1) = cntB (inB L') j + (if inB L' j = true then 1 else 0) := rfl
              have HCS := Aside0.mk hcs
              clear hcs
              cases hz : inB L' j with
              | false =>
                rw [hz] at hb2 HCS
                clear hz
                go_wp2_with fail
                go_roundg gk2
                case measure => omega
                case rel => exact ⟨j + 1, by go_num, by rw [HCS.out]; rfl, by omega, by omega, rfl⟩
              | true =>
                rw [hz] at hb2 HCS
                clear hz
                go_wp2_with fail
                go_roundg gk2
                case measure => omega
                case rel => exact ⟨j + 1, by go_num, by rw [HCS.out, if_pos trivial]; go_num, by omega, by omega, rfl⟩
            · obtain rfl : j = 8 := by omega
              have hcn := cntB_ok HOK'.out
              rw [hcn]
              clear hcn
              have hc0 : wr.cell? ⟨gq, 0, none⟩ = some (.int .i64 n') := (blk_cell HS3.out.q 0).trans rfl
              have hc1 : wr.cell? ⟨gq, 1, none⟩ = some (.slice A' L'.length c') := (blk_cell HS3.out.q 1).trans rfl
              have HC2 := Aside0.mk (queue_Sane.calls 100 n' A' c' L' true wr (Kd.V_reads' HS3.out.v).2.2 (Kd.V_reads' HS3.out.v).2.1 ((sane_eq n' L' (by have := HOK'.out.len; omega) 100 (by have := HOK'.out.len; omega)).trans (congrArg some ((saneB_iff _ _).2 HOK'.out))))
              go_wp2_with (first | (go_at_call 9; refine HC2.out.mono ?_; rintro e w4 ⟨rfl, hB4⟩; have HS4 := Aside0.mk (HS3.out.below hB4); clear hB4) | go_in)
              go_roundg gk
              case measure => omega
              case rel => exact ⟨i + 1, n', A', c', L', by go_num, by omega, by omega, by have := HN'.out; have := HNI.out; omega, HOK', HS4⟩
      · have hlt' : ((i : Int) < (ws.length : Int)) = False := eq_false (by omega)
        go_wp2_with fail
        go_ret
        exact ⟨rfl, HS.out.b⟩
end Go.Proofs.Ytnlnojolodnheaa.P
