/- Contracts of env.New, (*env.Env).Take, (*env.Env).Left: an Env is a block of two cells: a slice of the bytes that wait, a slice of the events. No condition. -/
import Derived.Test.YtodgpncfjogdbaaManClone
import Derived.Deep.LoopGhost
import Derived.Deep.QuietTactic
import Derived.Laws.IdiomCopy
import Derived.OrdersHeld
namespace Go.Proofs.Ytodgpncfjogdbaa.Man
open Go.RowKit Go.Proofs.YtodgpncfjogdbaaW.PrintWords Go.Proofs.YtodgpncfjogdbaaW.PrintLast Go.Proofs.YtodgpncfjogdbaaW.PrintMore
attribute [local go_sem] max2_int min2_int max_two min_two
set_option linter.unusedVariables false
set_option linter.unusedSimpArgs false

theorem add_block (a : Addr) (n : Nat) : (a.add n).block = a.block := by unfold Addr.add; split <;> rfl
/-- Bytes that can be read. -/
def Rd (w : World) (A : Option Addr) (xs : List Int) : Prop := ReadsOf (Value.int .u8) (0 : Int) w A xs.length xs
theorem Rd.C {w : World} {A : Option Addr} {xs : List Int} (h : Rd w A xs) : Kd.C (Kd.int .u8) w A xs.length xs := Kd.C_of_reads (d := (0 : Int)) (h1 := fun _ => rfl) h
theorem Rd.of_C {w : World} {A : Option Addr} {xs : List Int} (h : Kd.C (Kd.int .u8) w A xs.length xs) : Rd w A xs := by
  unfold Rd
  exact Kd.reads_of_C (enc := Value.int .u8) (d := (0 : Int)) (h1 := fun _ => rfl) h
theorem Rd.blk {w w1 : World} {A : Option Addr} {xs : List Int} (h : Rd w A xs) (hb : ∀ ad, A = some ad → w1.heap[ad.block]? = w.heap[ad.block]?) : Rd w1 A xs := by
  refine ⟨h.1, h.2.1, fun hn => ?_⟩
  obtain ⟨ad, e, hc⟩ := h.2.2 hn
  refine ⟨ad, e, fun j hj => ?_⟩
  rw [← hc j hj]
  exact World.cell?_of_block (by rw [add_block]; exact hb ad e)
/-- An Env: where it lies, where its bytes lie. -/
structure EnvC (w : World) (g : Nat) (A : Option Addr) (c : Nat) (xs : List Int) (vl : Value) : Prop where
  cell : w.heap[g]? = some (.cells #[.slice A xs.length c, vl] 46 (0, 0))
  bytes : Rd w A xs
  fit : xs.length ≤ c
  ne : ∀ ad, A = some ad → ad.block ≠ g ∧ ad.block < w.heap.size
theorem EnvC.keep {w w1 : World} {g : Nat} {A : Option Addr} {c : Nat} {xs : List Int} {vl : Value} (h : EnvC w g A c xs vl) (hb : Below w.heap.size w w1) : EnvC w1 g A c xs vl :=
  ⟨(hb.block g (Array.getElem?_eq_some_iff.1 h.cell).1).trans h.cell, h.bytes.blk fun ad e => hb.block _ (h.ne ad e).2, h.fit, fun ad e => ⟨(h.ne ad e).1, Nat.lt_of_lt_of_le (h.ne ad e).2 hb.size⟩⟩

set_option maxHeartbeats 2000000 in
set_option maxRecDepth 100000 in
theorem env_New.calls (A0 : Option Addr) (c0 : Nat) (l0 : List Int) (w : World) (hr0 : Kd.C (Kd.int .u8) w A0 l0.length l0) (hc0 : l0.length ≤ c0) (hl : l0.length ≤ 140737488355328) :
    Calls Try.prog 7 #[.slice A0 l0.length c0] w fun e w' => ∃ g A c, e = .returned (.pointer (some ⟨g, 0, none⟩)) ∧ w.heap.size ≤ g ∧ EnvC w' g A c l0 (.slice none 0 0) ∧ Below w.heap.size w w' := by
  have HF : slices_Clone_byte_byte.f l0 = some l0 := by unfold slices_Clone_byte_byte.f; rw [if_pos hl]
  go_enter Try.func7, Try.ntmps7
  go_wp2_with fail
  refine (slices_Clone_byte_byte.calls _ _ _ _ _ hr0 hc0 HF).mono ?_
  rintro e w1 ⟨v0, rfl, hr, hb⟩
  have hown := Kd.own_of_R hr
  obtain ⟨A, c, rfl, hfit, hC⟩ := Kd.R_reads hr
  have hne : ∀ ad, A = some ad → ad.block < w1.heap.size := by
    intro ad e
    exact (World.ownsRow.lt hown ad.block (by rw [e]; rfl)).2
  clear hr hown
  go_wp2_with fail
  go_ret
  refine ⟨w1.heap.size, A, c, rfl, hb.size, ⟨heap_alloc_new w1 _, (Rd.of_C hC).blk fun ad e => (below_alloc (Below.refl _ _) _).block _ (hne ad e), hfit, fun ad e => ⟨Nat.ne_of_lt (hne ad e), Nat.lt_of_lt_of_le (hne ad e) (below_alloc (Below.refl w1.heap.size _) _).size⟩⟩, below_step hb (below_alloc (Below.refl _ _) _)⟩

set_option maxHeartbeats 2000000 in
set_option maxRecDepth 100000 in
theorem env_Left.calls (g : Nat) (A : Option Addr) (c : Nat) (xs : List Int) (vl : Value) (w : World) (hE : EnvC w g A c xs vl) :
    Calls Try.prog 11 #[.pointer (some ⟨g, 0, none⟩)] w fun e w' => e = .returned (.int .i64 (xs.length : Int)) ∧ Drawn0 w w' := by
  have h0 : w.cell? ⟨g, 0, none⟩ = some (.slice A xs.length c) := by simp [World.cell?, hE.cell]
  go_enter Try.func11, Try.ntmps11
  go_wp2
  go_ret
  exact ⟨rfl, by repeat (first | exact Drawn0.refl _ | apply Drawn0.step)⟩

/-- How many bytes are taken. -/
def takeN (n : Int) (xs : List Int) : Int := mn (mx n 0) (xs.length : Int)
theorem takeN_b (n : Int) (xs : List Int) : 0 ≤ takeN n xs ∧ takeN n xs ≤ (xs.length : Int) := by unfold takeN mn mx; omega
set_option maxHeartbeats 2000000 in
set_option maxRecDepth 100000 in
theorem env_Take.calls (g : Nat) (A : Option Addr) (c : Nat) (xs : List Int) (vl : Value) (n : Int) (w : World) (hE : EnvC w g A c xs vl) (hl : xs.length ≤ 140737488355328) :
    Calls Try.prog 9 #[.pointer (some ⟨g, 0, none⟩), .int .i64 n] w fun e w' =>
      ∃ v0 A' c', e = .returned v0 ∧ Kd.R (Kd.int .u8) 5 w' w.heap.size (fun _ => True) v0 (xs.take (takeN n xs).toNat) ∧ EnvC w' g A' c' (xs.drop (takeN n xs).toNat) vl ∧ KeepBut w w' g none ∧ w'.os = w.os ∧ w'.tape = w.tape ∧ w'.output = w.output := by
  obtain ⟨b0, b1⟩ := takeN_b n xs
  obtain ⟨m, hm⟩ : ∃ m, takeN n xs = m := ⟨_, rfl⟩
  rw [hm] at b0 b1 ⊢
  unfold takeN at hm
  obtain ⟨m1, hm1⟩ : ∃ m1, mx n 0 = m1 := ⟨_, rfl⟩
  rw [hm1] at hm
  have hm1' : (if n < 0 then 0 else n) = m1 := hm1
  have hm' : (if (xs.length : Int) < m1 then (xs.length : Int) else m1) = m := hm
  obtain ⟨i0, hi, hz0, hz1, hz2⟩ := info_parts clone_info
  have hfit := hE.fit
  have cut1 := cut_to (P := Try.prog) 22 5 .i64 Try.underlying22 hi A xs.length c m b0 b1 hfit
  have hlt : (xs.take m.toNat).length = m.toNat := by rw [List.length_take]; omega
  have hC1 : Kd.C (Kd.int .u8) w A (xs.take m.toNat).length (xs.take m.toNat) := Kd.C_take hE.bytes.C (by omega)
  have HF : slices_Clone_byte_byte.f (xs.take m.toNat) = some (xs.take m.toNat) := by unfold slices_Clone_byte_byte.f; rw [if_pos (by omega)]
  have hcl := slices_Clone_byte_byte.calls A c (xs.take m.toNat) _ w hC1 (by omega) HF
  rw [hlt] at hcl
  have HCL := Aside0.mk hcl
  clear hcl
  have h0 : w.cell? ⟨g, 0, none⟩ = some (.slice A xs.length c) := by simp [World.cell?, hE.cell]
  have HE := Aside0.mk hE
  clear hE hC1
  go_enter Try.func9, Try.ntmps9
  go_wp2_with fail
  refine HCL.out.mono ?_
  rintro e w1 ⟨v0, rfl, hr, hb⟩
  have h1 : w1.cell? ⟨g, 0, none⟩ = some (.slice A xs.length c) := by
    have E := HE.out.keep hb
    simp [World.cell?, E.cell]
  have hfz : w1.frozen? ⟨g, 0, none⟩ = false := by
    have E := HE.out.keep hb
    simp [World.frozen?, E.cell]
  have cut2 := cut_from (P := Try.prog) 22 5 .i64 Try.underlying22 hi 1 hz1 A xs.length c m b0 b1
  have hD := Kd.C_drop (c := c) (m := m.toNat) (HE.out.keep hb).bytes.C (by omega) hfit
  have hDb : ∀ ad, (if c = m.toNat then A else A.map (·.add (m.toNat * (Kd.int .u8).sz))) = some ad → ad.block ≠ g ∧ ad.block < w.heap.size := by
    intro ad e
    split at e
    · exact HE.out.ne ad e
    · cases A with
      | none => cases e
      | some a0 =>
        cases e
        rw [show ((a0.add (m.toNat * (Kd.int .u8).sz)).block) = a0.block from add_block _ _]
        exact HE.out.ne a0 rfl
  obtain ⟨A', hA'⟩ : ∃ A' : Option Addr, (if c = m.toNat then A else A.map (·.add (m.toNat * 1))) = A' := ⟨_, rfl⟩
  rw [show (Kd.int .u8).sz = 1 from rfl, hA'] at hD hDb
  rw [hA'] at cut2
  have hld : (xs.drop m.toNat).length = xs.length - m.toNat := List.length_drop
  have HD := Aside0.mk hD
  have HR := Aside0.mk hr
  have HB := Aside0.mk hb
  have HDb := Aside0.mk hDb
  clear hr hb hD hDb hA'
  go_wp2_with fail
  go_ret
  have E := HE.out.keep HB.out
  have hg : g < w.heap.size := (Array.getElem?_eq_some_iff.1 HE.out.cell).1
  have S (u : Value) : Below 0 w1 (w1.setCell ⟨g, 0, none⟩ u) := (Below.refl 0 w1).setCell (Nat.zero_le _) _
  refine ⟨_, A', c - m.toNat, rfl, Kd.R_set HR.out E.cell (by decide) 0 _, ⟨?_, ?_, by omega, ?_⟩, (KeepBut.of_below HB.out g none).set_ 0 _, (S _).os.trans HB.out.os, (S _).tape.trans HB.out.tape, (S _).output.trans HB.out.output⟩
  · rw [hld]; exact blk_set E.cell 0 _
  · exact (Rd.of_C HD.out).blk fun ad e => Below.heap_setCell _ _ _ _ (HDb.out ad e).1
  · intro ad e
    exact ⟨(HDb.out ad e).1, Nat.lt_of_lt_of_le (HDb.out ad e).2 (Nat.le_trans HB.out.size (S _).size)⟩

end Go.Proofs.Ytodgpncfjogdbaa.Man
