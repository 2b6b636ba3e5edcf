import Derived.Test.YtekfjpnfhgbalaaX
import Derived.Test.YtekfjpnfhgbalaaP0
import Derived.Laws.IdiomStrings
import Derived.WalkLawsBesides
namespace Go.Proofs.Ytekfjpnfhgbalaa.C
open Go.Proofs.YtekfjpnfhgbalaaX Go.RowKit Go.Proofs.YtekfjpnfhgbalaaW.PrintWords Go.Proofs.YtekfjpnfhgbalaaW.PrintLast Go.Proofs.YtekfjpnfhgbalaaW.PrintMore
attribute [local go_sem] max2_int min2_int max_two min_two max_three min_three max_four min_four
set_option linter.unusedVariables false
set_option linter.unusedSimpArgs false

/-- A row of bytes of the call's own, a mark behind its end: what '[]byte(s)' makes. -/
def ByteRow (W : World) (g n : Nat) (f : Nat → Int) : Prop :=
  ∃ cur M, W.heap[g]? = some (.cells cur 5 (M, M + 1)) ∧ cur.size = M ∧ n ≤ M ∧ ∀ j, j < n → cur[j]? = some (.int .u8 (f j))
theorem ByteRow.cell {W : World} {g n : Nat} {f : Nat → Int} (h : ByteRow W g n f) (j : Nat) (hj : j < n) : W.cell? ⟨g, j, none⟩ = some (.int .u8 (f j)) := by
  obtain ⟨cur, M, hb, _, _, hc⟩ := h
  simp [World.cell?, hb, hc j hj]
theorem ByteRow.frozen {W : World} {g n : Nat} {f : Nat → Int} (h : ByteRow W g n f) (j : Nat) (hj : j < n) : W.frozen? ⟨g, j, none⟩ = false := by
  obtain ⟨cur, M, hb, _, hM, _⟩ := h
  simp only [World.frozen?, hb]
  have : ¬ M ≤ j := by omega
  simp [this]
theorem ByteRow.lt {W : World} {g n : Nat} {f : Nat → Int} (h : ByteRow W g n f) : g < W.heap.size := by
  obtain ⟨cur, M, hb, _⟩ := h
  exact blk_lt hb
theorem ByteRow.below {W W1 : World} {g n : Nat} {f : Nat → Int} (h : ByteRow W g n f) (hb : Below W.heap.size W W1) : ByteRow W1 g n f := by
  obtain ⟨cur, M, h1, h2⟩ := h
  exact ⟨cur, M, blk_below h1 hb, h2⟩
theorem ByteRow.set {W : World} {g n : Nat} {f f' : Nat → Int} (h : ByteRow W g n f) (i : Nat) (x : Int) (hf : ∀ j, j < n → f' j = if j = i then x else f j) (hi : i < n) : ByteRow (W.setCell ⟨g, i, none⟩ (.int .u8 x)) g n f' := by
  obtain ⟨cur, M, hb, hs, hM, hc⟩ := h
  refine ⟨cur.setIfInBounds i (.int .u8 x), M, ?_, by simpa using hs, hM, fun j hj => ?_⟩
  · obtain ⟨hlt, he⟩ := Array.getElem?_eq_some_iff.1 hb
    show (W.heap.modify g _)[g]? = _
    rw [Array.getElem?_eq_getElem (by rw [Array.size_modify]; exact hlt), Array.getElem_modify_self, he]
    rfl
  · rw [hf j hj]
    by_cases e : j = i
    · subst e
      have : j < cur.size := by omega
      simp [this]
    · rw [if_neg e, Array.getElem?_setIfInBounds_ne (Ne.symm e)]
      exact hc j hj
theorem ByteRow.reads {W : World} {g n : Nat} {f : Nat → Int} (h : ByteRow W g n f) (hn : n ≤ 9223372036854775807) : ReadsInt W .u8 (some ⟨g, 0, none⟩) n ((List.range n).map f) := by
  refine ⟨by simp, hn, fun _ => ⟨_, rfl, fun j hj => ?_⟩⟩
  have e : ((List.range n).map f).getD j 0 = f j := by simp [List.getD, hj]
  rw [e, add_plain]
  exact h.cell j hj
theorem ByteRow.made (w : World) (s : ByteArray) : ByteRow (w.drew.alloc (.cells (bytesRow s (grownCap w s.size 0 5)) 5 ((bytesRow s (grownCap w s.size 0 5)).size, (bytesRow s (grownCap w s.size 0 5)).size + 1))) w.heap.size s.size (fun j => bt s j) := by
  refine ⟨_, _, heap_alloc_new _ _, rfl, ?_, fun j hj => ?_⟩
  · simp [bytesRow]
  · have hj' : j < s.data.size := hj
    simp [bytesRow, Array.getElem?_append, hj', bt, hj]
    rfl

def upper (c : Int) : Int := if 97 ≤ c then (if c ≤ 122 then ((c - 97) % 256 + 65) % 256 else c) else c
theorem capital_calls (c : Int) (w : World) : Calls Try.prog 29 #[.int .u8 c] w fun e w' => e = .returned (.int .u8 (upper c)) ∧ w = w' := by
  by_cases h1 : 97 ≤ c
  · by_cases h2 : c ≤ 122
    · go_enter Try.func29, Try.ntmps29
      go_wp2
      go_ret
      refine ⟨?_, rfl⟩
      have e : upper c = c - 97 + 65 := by unfold upper; rw [if_pos h1, if_pos h2]; omega
      rw [e]; rfl
    · go_enter Try.func29, Try.ntmps29
      go_wp2
      go_ret
      refine ⟨?_, rfl⟩
      have e : upper c = c := by unfold upper; rw [if_pos h1, if_neg (by omega)]
      rw [e]; rfl
  · go_enter Try.func29, Try.ntmps29
    go_wp2
    go_ret
    refine ⟨?_, rfl⟩
    have e : upper c = c := by unfold upper; rw [if_neg (by omega)]
    rw [e]; rfl
def upTo (s : ByteArray) (k j : Nat) : Int := if j < k then upper (bt s j) else bt s j

set_option maxHeartbeats 2000000 in
theorem scan_Upper.walk (s : ByteArray) (w : World) (hs : s.size ≤ 140737488355328) :
    Calls Try.prog 17 #[.string s] w fun e w' => e = .returned (.string (strOfNums ((List.range s.size).map fun j : Nat => upper (bt s (j : Int))))) ∧ Below w.heap.size w w' := by
  have hcv := fun w s => run_bytes_of_string (P := Try.prog) w 9 22 5 s Try.underlying9 Try.underlying22 Try.underlying5
  have hmade := ByteRow.made w s
  go_enter Try.func17, Try.ntmps17
  go_wp2
  go_loopw [4, 5, 10] (fun _ _ i wr => ∃ k : Nat, k ≤ s.size ∧ i = .int .i64 k ∧ Aside0 (ByteRow wr w.heap.size s.size (upTo s k)) ∧ Aside0 (Below w.heap.size w wr)) (fun _ _ i _ => s.size - (intOf i).toNat)
  case atStart => exact ⟨0, Nat.zero_le _, rfl, ⟨by have e : upTo s 0 = fun j : Nat => bt s (j : Int) := by funext j; simp [upTo]
                                                    rw [e]; exact hmade⟩, ⟨below_drew1 (below_alloc (Below.refl _ _) _)⟩⟩
  case round =>
    obtain ⟨k, hk, rfl, HR, HB⟩ := hrel
    by_cases hlt : k < s.size
    · have hc : wr.cell? ⟨w.heap.size, k, none⟩ = some (.int .u8 (upTo s k k)) := HR.out.cell k hlt
      have hf := HR.out.frozen k hlt
      go_wp2_with (go_at_call 29; refine (capital_calls _ _).mono ?_; rintro e w' ⟨rfl, rfl⟩)
      go_roundw
      case rel =>
        refine ⟨k + 1, by omega, by go_num, ⟨HR.out.set k _ (fun j _ => ?_) hlt⟩, ⟨below_set HB.out (Nat.le_refl _)⟩⟩
        unfold upTo
        by_cases e : j = k
        · subst e; simp
        · rw [if_neg e]; simp [show (j < k + 1) = (j < k) from by simp; omega]
      case measure => simp [intOf]; omega
    · obtain rfl : k = s.size := by omega
      have hst := fun c => string_of_reads (P := Try.prog) (c := c) Try.underlying22 Try.underlying5 Try.underlying9 (HR.out.reads (by omega))
      go_wp2
      go_ret
      refine ⟨?_, HB.out⟩
      have e : upTo s s.size = upTo s s.size := rfl
      have e2 : (List.range s.size).map (upTo s s.size) = (List.range s.size).map fun j : Nat => upper (bt s (j : Int)) := List.map_congr_left fun j hj => by
        have : j < s.size := List.mem_range.1 hj
        simp [upTo, this]
      rw [← e2]; rfl

theorem upper_dec (c : Int) (h1 : 97 ≤ c) (h2 : c ≤ 122) : upper c = c - 32 := by unfold upper; rw [if_pos h1, if_pos h2]; omega
theorem upTo_step (s : ByteArray) (k : Nat) (x : Int) (hx : x = upper (bt s k)) (j : Nat) : upTo s (k + 1) j = if j = k then x else upTo s k j := by
  unfold upTo
  by_cases e : j = k
  · subst e; simp [hx]
  · rw [if_neg e]; simp [show (j < k + 1) = (j < k) from by simp; omega]
theorem upTo_same (s : ByteArray) (k : Nat) (hx : upper (bt s k) = bt s k) : upTo s (k + 1) = upTo s k := by
  funext j
  rw [upTo_step s k _ rfl j]
  by_cases e : j = k
  · subst e; simp [upTo, hx]
  · rw [if_neg e]

set_option maxHeartbeats 2000000 in
theorem ref_Upper.walk (s : ByteArray) (w : World) (hs : s.size ≤ 140737488355328) :
    Calls Try.prog 18 #[.string s] w fun e w' => e = .returned (.string (strOfNums ((List.range s.size).map fun j : Nat => upper (bt s (j : Int))))) ∧ Below w.heap.size w w' := by
  have hcv := fun w s => run_bytes_of_string (P := Try.prog) w 9 22 5 s Try.underlying9 Try.underlying22 Try.underlying5
  have hmade := ByteRow.made w s
  go_enter Try.func18, Try.ntmps18
  go_wp2
  go_loopw [4] (fun i wr => ∃ k : Nat, k ≤ s.size ∧ i = .int .i64 k ∧ Aside0 (ByteRow wr w.heap.size s.size (upTo s k)) ∧ Aside0 (Below w.heap.size w wr)) (fun i _ => s.size - (intOf i).toNat)
  case atStart => exact ⟨0, Nat.zero_le _, rfl, ⟨by have e : upTo s 0 = fun j : Nat => bt s (j : Int) := by funext j; simp [upTo]
                                                    rw [e]; exact hmade⟩, ⟨below_drew1 (below_alloc (Below.refl _ _) _)⟩⟩
  case round =>
    obtain ⟨k, hk, rfl, HR, HB⟩ := hrel
    by_cases hlt : k < s.size
    · have hc0 : wr.cell? ⟨w.heap.size, k, none⟩ = some (.int .u8 (upTo s k k)) := HR.out.cell k hlt
      have hck : upTo s k k = bt s k := by simp [upTo]
      rw [hck] at hc0
      have hf := HR.out.frozen k hlt
      clear hck
      have hb := bt_range s k
      generalize hx : bt s k = x at hc0 hb
      have HX := Aside0.mk hx
      clear hx
      by_cases h1 : 97 ≤ x
      · by_cases h2 : x ≤ 122
        · go_wp2
          go_roundw
          case rel => exact ⟨k + 1, by omega, by go_num, ⟨HR.out.set k _ (fun j _ => upTo_step s k _ (by rw [HX.out, upper_dec _ h1 h2]) j) hlt⟩, ⟨below_set HB.out (Nat.le_refl _)⟩⟩
          case measure => simp [intOf]; omega
        · go_wp2
          go_roundw
          case rel => exact ⟨k + 1, by omega, by go_num, ⟨by rw [upTo_same s k (by rw [HX.out]; unfold upper; rw [if_pos h1, if_neg h2])]; exact HR.out⟩, HB⟩
          case measure => simp [intOf]; omega
      · go_wp2
        go_roundw
        case rel => exact ⟨k + 1, by omega, by go_num, ⟨by rw [upTo_same s k (by rw [HX.out]; unfold upper; rw [if_neg h1])]; exact HR.out⟩, HB⟩
        case measure => simp [intOf]; omega
    · obtain rfl : k = s.size := by omega
      have hst := fun c => string_of_reads (P := Try.prog) (c := c) Try.underlying22 Try.underlying5 Try.underlying9 (HR.out.reads (by omega))
      go_wp2
      go_ret
      refine ⟨?_, HB.out⟩
      have e2 : (List.range s.size).map (upTo s s.size) = (List.range s.size).map fun j : Nat => upper (bt s (j : Int)) := List.map_congr_left fun j hj => by
        have : j < s.size := List.mem_range.1 hj
        simp [upTo, this]
      rw [← e2]; rfl
end Go.Proofs.Ytekfjpnfhgbalaa.C
