-- Written by a program of this session (xprint.py, asm.py).
import Derived.Test.YtnlnojolodnheaaP0
import Derived.Test.YtnlnojolodnheaaP1
import Derived.Test.YtnlnojolodnheaaX
import Derived.Test.YtnlnojolodnheaaF
import Derived.Test.YtnlnojolodnheaaD
import Derived.Test.YtnlnojolodnheaaI
import Derived.Ground.SlsfProg
import Derived.Shelf.SlicesQ.IndexFunc
namespace Go.Proofs.Ytnlnojolodnheaa.P
open Go.Proofs.YtnlnojolodnheaaX Go.Proofs.YtnlnojolodnheaaF Go.RowKit Go.Proofs.YtnlnojolodnheaaW.PrintWords Go.Proofs.YtnlnojolodnheaaW.PrintLast Go.Proofs.YtnlnojolodnheaaW.PrintMore
attribute [local go_sem] max2_int min2_int max_two min_two max_three min_three max_four min_four   -- for this text's walks alone

set_option linter.unusedVariables false
set_option linter.unusedSimpArgs false

/-! ### queue_Queue_at: function 29 -/
instance : Inhabited S60 := ⟨z60⟩
def atRen : Go.Shelf.Ren := ⟨fun | 6 => 40 | n => n, fun | 22 => 27 | 23 => 60 | 25 => 79 | 3 => 3 | 0 => 0 | 4 => 4 | n => n, fun | n => n⟩
theorem atLays : Go.Proofs.SlLaysH0.n6 Try.prog atRen := {
 mixed := by kernel_rfl
 f6 := ⟨Try.f40.name, by decide, Try.func40.trans (congrArg some (by kernel_rfl))⟩
 t0 := Try.underlying0
 a0 := Try.isAgg0
 z0 := Try.sizeOf0
 v0 := Try.zeroValue0
 t3 := Try.underlying3
 a3 := Try.isAgg3
 z3 := Try.sizeOf3
 v3 := Try.zeroValue3
 t4 := Try.underlying4
 a4 := Try.isAgg4
 z4 := Try.sizeOf4
 v4 := Try.zeroValue4
 t22 := Try.underlying27
 a22 := Try.isAgg27
 z22 := Try.sizeOf27
 v22 := Try.zeroValue27
 t25 := Try.underlying79
 a25 := Try.isAgg79
 z25 := Try.sizeOf79
 v25 := Try.zeroValue79 }
theorem enters41 : EntersV Try.prog 41 := EntersV.of Try.func41 (by kernel_rfl) rfl
theorem at1_calls (id : Int) (g : Nat) (c0 c1 c2 : Int) (w : World) (hc : w.cell? ⟨g, 0, none⟩ = some (.int .i64 id)) :
  Calls Try.prog 41 (#[.agg #[.int .i64 c0, .int .i64 c1, .int .i64 c2]] ++ #[.pointer (some ⟨g, 0, none⟩)]) w fun e w' => e = .returned (.bool (c0 == id)) ∧ Below w.heap.size w w' := by
 have hlt := World.block_lt_of_cell? w _ hc
 have hne : g ≠ w.heap.size := by
  intro e
  subst e
  exact Nat.lt_irrefl _ hlt
 go_enter Try.func41, Try.ntmps41
 go_wp2
 go_ret
 exact ⟨by simp, below_alloc (Below.refl _ _) _⟩
theorem C_spot {w : World} {ad : Addr} {l : List S60} (hC : Kd.C k60 w (some ad) l.length l) (hl : 0 < l.length) : ad.spot = none := by
 obtain ⟨ad', e, h0, _⟩ := at_T60 hC 0 (by omega) (by omega)
 cases e
 cases hs : ad.spot with
 | none => rfl
 | some q =>
  have e2 : (ad.add (Int.toNat 0 * 3)).spot = some q := hs
  unfold World.cell? at h0
  rw [e2] at h0
  split at h0 <;> simp at h0
/-- Where the first one of a number is. -/
def idxI (l : List S60) (id : Int) : Int := Lib.idxBy (fun _ (y : S60) => y.f0 == id) l default
theorem index_some (id : Int) (g : Nat) (ad : Addr) (c : Nat) (l : List S60) (w : World) (hl : 0 < l.length) (hC : Kd.C k60 w (some ad) l.length l) (hc : w.cell? ⟨g, 0, none⟩ = some (.int .i64 id)) :
  Calls Try.prog 40 #[.slice (some ad) l.length c, .func (.func 41) #[] #[.pointer (some ⟨g, 0, none⟩)]] w fun e w' => e = .returned (.int .i64 (idxI l id)) ∧ Below w.heap.size w w' := by
 have hmx : l.length ≤ 9223372036854775807 := Kd.C_max hC
 have hget : ∀ j : Nat, j < l.length → ∀ i v, (cells60 l[j]!)[i]? = some v → w.cell? ⟨ad.block, ad.off + j * 3 + i, none⟩ = some v := by
  intro j hj i v hi
  obtain ⟨ad', e, h0, h1, h2⟩ := at_T60 hC (j : Int) (by omega) (by omega)
  cases e
  have hx : rd_T60 l (j : Int) = l[j]! := by
   unfold rd_T60
   rw [getElem!_pos l j hj]
   simp [List.getD, hj]
  rw [hx] at h0 h1 h2
  rw [Int.toNat_natCast] at h0 h1 h2
  have hsp : ad.spot = none := C_spot hC hl
  obtain ⟨b, o, sp⟩ := ad
  simp only at hsp
  subst hsp
  rw [Addr.add_lit] at h0 h1 h2
  match i, hi with
  | 0, hi => exact h0.trans hi
  | 1, hi => exact h1.trans hi
  | 2, hi => exact h2.trans hi
  | i + 3, hi => exact absurd hi (by simp [cells60])
 have hbl : ad.block < w.heap.size := by
  have := hget 0 hl 0 _ rfl
  exact World.block_lt_of_cell? w ⟨ad.block, _, none⟩ this
 have hsp := C_spot hC hl
 obtain ⟨b, o, sp⟩ := ad
 simp only at hsp
 subst hsp
 have := AnyQ.slices_IndexFunc atLays 3 (fun w => by kernel_rfl) sizeOf60 cells60 (fun _ => rfl) (fun x => x.f0 == id) 41 #[.pointer (some ⟨g, 0, none⟩)] enters41 b o l.length c l w
  (fun W x hb => (at1_calls id g x.f0 x.f1 x.f2 W (pw_cell_below hb hc)).mono fun e w' ⟨he, hb2⟩ => ⟨he, below_step hb hb2⟩) (Nat.le_refl _) hmx hbl hget
 rw [List.take_length] at this
 exact this
theorem index_nil (a : Option Addr) (c : Nat) (fv : Value) (w : World) :
  Calls Try.prog 40 #[.slice a 0 c, fv] w fun e w' => e = .returned (.int .i64 (-1)) ∧ w = w' := by
 go_enter Try.func40, Try.ntmps40
 go_wp2
 go_loopg [5, 8] 0 (fun _ _ s8 wr => s8 = .int .i64 0 ∧ wr = w)
 case atStart => exact ⟨rfl, rfl⟩
 case round =>
  obtain ⟨rfl, rfl⟩ := hrel
  go_wp2
  go_ret
  exact ⟨rfl, rfl⟩
def queue_Queue_at.f (a0_0 : Int) (l0_1 : List (S60)) (a1 : Int) : Option (Int) := some (idxI l0_1 a1)
set_option maxHeartbeats 8000000 in
set_option maxRecDepth 100000 in
theorem queue_Queue_at.calls (a0_0 : Int) (A0_1 : Option Addr) (c0_1 : Nat) (l0_1 : List (S60)) (a1 : Int) (r : Int) (w : World) (hr0_1 : Kd.C k60 w A0_1 l0_1.length l0_1) (hc0_1 : l0_1.length ≤ c0_1) (h : queue_Queue_at.f a0_0 l0_1 a1 = some r) :
  Calls Try.prog 29 #[.agg #[.int .i64 a0_0, .slice A0_1 l0_1.length c0_1], .int .i64 a1] w fun e w' => e = .returned (.int .i64 r) ∧ Below w.heap.size w w' := by
 obtain rfl := Option.some.inj h
 clear h
 have HR := Aside0.mk hr0_1
 clear hr0_1 hc0_1
 by_cases hz : l0_1 = []
 ·subst hz
  have e0 : idxI [] a1 = -1 := rfl
  rw [e0]
  clear e0 HR
  go_enter Try.func29, Try.ntmps29
  go_wp2_with (first | (go_at_call 40; refine (index_nil _ _ _ _).mono ?_; rintro e w' ⟨rfl, rfl⟩) | go_in)
  go_ret
  exact ⟨rfl, below_alloc (below_alloc (Below.refl _ _) _) _⟩
 ·have hl : 0 < l0_1.length := List.length_pos_iff.2 hz
  obtain ⟨ad, rfl⟩ : ∃ ad, A0_1 = some ad := by
   obtain ⟨_, _, h3⟩ := HR.out
   obtain ⟨ad, e, _⟩ := h3 hl
   exact ⟨ad, e⟩
  have hcall := fun (W : World) (g : Nat) (hb : Below w.heap.size w W) (hg : W.cell? ⟨g, 0, none⟩ = some (.int .i64 a1)) => index_some a1 g ad c0_1 l0_1 W hl (Kd.C_below HR.out hb) hg
  have HC := Aside0.mk hcall
  obtain ⟨i_, hi_⟩ : ∃ i_, idxI l0_1 a1 = i_ := ⟨_, rfl⟩
  rw [hi_]
  have HI := Aside0.mk hi_
  clear hcall hl hz HR hi_
  go_enter Try.func29, Try.ntmps29
  go_wp2_with (first | (go_at_call 40; refine (HC.out _ _ (below_alloc (below_alloc (Below.refl _ _) _) _) ?cc).mono ?_; (case cc => go_simp); rintro e w' ⟨rfl, hb⟩; rw [HI.out] at *) | go_in)
  go_ret
  exact ⟨rfl, below_step (below_alloc (below_alloc (Below.refl _ _) _) _) hb⟩


end Go.Proofs.Ytnlnojolodnheaa.P
