import Derived.Test.YtekfjpnfhgbalaaX
import Derived.Test.YtekfjpnfhgbalaaP0
import Derived.Test.YtekfjpnfhgbalaaS
import Derived.Lib.IndexLaws
import Derived.WalkSpells
namespace Go.Proofs.Ytekfjpnfhgbalaa.C
open Go.Proofs.YtekfjpnfhgbalaaX Go.RowKit Go.Proofs.YtekfjpnfhgbalaaW.PrintWords Go.Proofs.YtekfjpnfhgbalaaW.PrintLast Go.Proofs.YtekfjpnfhgbalaaW.PrintMore
set_option linter.unusedVariables false
set_option linter.unusedSimpArgs false

theorem idx_call (s : ByteArray) (w : World) : Calls Try.prog 35 #[.string s, .string ⟨#[10]⟩] w fun e w' => e = .returned (.int .i64 (Lib.indexByte s.data.toList 10)) ∧ w = w' :=
  (Try.stringslite_Index_byte s 10 w).mono fun _ _ ⟨a, b⟩ => ⟨a, b.symm⟩

set_option maxHeartbeats 1000000 in
theorem slCut_yes (s : ByteArray) (i : Nat) (w : World) (hi : Lib.indexByte s.data.toList 10 = i) (hlt : i < s.size) (hs : s.size ≤ 140737488355328) :
    Calls Try.prog 34 #[.string s, .string ⟨#[10]⟩] w fun e w' => e = .returned (.tuple #[.string (s.extract 0 i), .string (s.extract (i + 1) s.size), .bool true]) ∧ ∃ n, w' = w.drewN n := by
  have hc := idx_call s w
  rw [hi] at hc
  clear hi
  have h0 : 0 ≤ (i : Int) := by omega
  have h1 : (i : Int) ≤ (s.size : Int) := by omega
  have h2 : (i : Int) + 1 ≤ (s.size : Int) := by omega
  go_enter Try.func34, Try.ntmps34
  go_wp2_with (go_at_call 35; refine hc.mono ?_; rintro e w' ⟨rfl, rfl⟩)
  go_quiet (fail)
  go_wp2
  go_ret3
  exact ⟨rfl, _, rfl⟩

set_option maxHeartbeats 1000000 in
theorem slCut_no (s : ByteArray) (w : World) (hi : Lib.indexByte s.data.toList 10 = -1) (hs : s.size ≤ 140737488355328) :
    Calls Try.prog 34 #[.string s, .string ⟨#[10]⟩] w fun e w' => e = .returned (.tuple #[.string s, .string ⟨#[]⟩, .bool false]) ∧ ∃ n, w' = w.drewN n := by
  have hc := idx_call s w
  rw [hi] at hc
  clear hi
  go_enter Try.func34, Try.ntmps34
  go_wp2_with (go_at_call 35; refine hc.mono ?_; rintro e w' ⟨rfl, rfl⟩)
  go_ret3
  exact ⟨rfl, 0, rfl⟩

/-- Before the first line's end, behind it, and whether there is one. -/
def cutLine (s : ByteArray) : ByteArray × ByteArray × Bool :=
  if 0 ≤ Lib.indexByte s.data.toList 10 then (s.extract 0 (Lib.indexByte s.data.toList 10).toNat, s.extract ((Lib.indexByte s.data.toList 10).toNat + 1) s.size, true) else (s, ⟨#[]⟩, false)

theorem slCut_any (s : ByteArray) (w : World) (hs : s.size ≤ 140737488355328) :
    Calls Try.prog 34 #[.string s, .string ⟨#[10]⟩] w fun e w' => e = .returned (.tuple #[.string (cutLine s).1, .string (cutLine s).2.1, .bool (cutLine s).2.2]) ∧ ∃ n, w' = w.drewN n := by
  by_cases h : 0 ≤ Lib.indexByte s.data.toList 10
  · obtain ⟨i, hi⟩ : ∃ i : Nat, Lib.indexByte s.data.toList 10 = i := ⟨(Lib.indexByte s.data.toList 10).toNat, by omega⟩
    have hlt : i < s.size := by
      have := (Lib.indexByte_some hi).1
      have := (List.getElem?_eq_some_iff.1 this).1
      simpa using this
    have e : cutLine s = (s.extract 0 i, s.extract (i + 1) s.size, true) := by unfold cutLine; rw [hi, if_pos (by omega)]; simp
    rw [e]
    exact slCut_yes s i w hi hlt hs
  · have hi : Lib.indexByte s.data.toList 10 = -1 := by have := Lib.indexByte_ge s.data.toList 10; omega
    have e : cutLine s = (s, ⟨#[]⟩, false) := by unfold cutLine; rw [if_neg h]
    rw [e]
    exact slCut_no s w hi hs

set_option maxHeartbeats 1000000 in
theorem cut_any (s : ByteArray) (w : World) (hs : s.size ≤ 140737488355328) :
    Calls Try.prog 33 #[.string s, .string ⟨#[10]⟩] w fun e w' => e = .returned (.tuple #[.string (cutLine s).1, .string (cutLine s).2.1, .bool (cutLine s).2.2]) ∧ ∃ n, w' = w.drewN n := by
  have hc := slCut_any s w hs
  generalize cutLine s = c at hc
  obtain ⟨a, b, m⟩ := c
  go_enter Try.func33, Try.ntmps33
  go_wp2_with (go_at_call 34; refine hc.mono ?_; rintro e w' ⟨rfl, n, rfl⟩)
  go_ret3
  exact ⟨rfl, _, rfl⟩
end Go.Proofs.Ytekfjpnfhgbalaa.C
