/- Contract of dovetaillaw7.known: it is true. No condition. -/
import Derived.Test.YtodgpncfjogdbaaManOutputEnvPlays
import Derived.Lib.ConvBytes
import Derived.Lib.SlBytesConst
import Derived.Laws.Slices
import Derived.Laws.BytesArg
namespace Go.Proofs.Ytodgpncfjogdbaa.Man
open Go.RowKit Go.Proofs.YtodgpncfjogdbaaW.PrintWords Go.Proofs.YtodgpncfjogdbaaW.PrintLast Go.Proofs.YtodgpncfjogdbaaW.PrintMore Go.Proofs.Ytodgpncfjogdbaa.QEnvPlays
attribute [local go_sem] max2_int min2_int max_two min_two
set_option linter.unusedVariables false
set_option linter.unusedSimpArgs false

theorem rd_two (w : World) (x y : Int) (fr : Nat × Nat) (k : Nat) (h : w.heap[k]? = some (.cells #[.int .u8 x, .int .u8 y] 5 fr)) : Rd w (some ⟨k, 0, none⟩) [x, y] := by
  refine ⟨rfl, by simp, fun _ => ⟨_, rfl, fun j hj => ?_⟩⟩
  have hj : j = 0 ∨ j = 1 := by simp at hj; omega
  rcases hj with rfl | rfl <;> simp [World.cell?, Addr.add, h]
/-- What lies below a number is as it was, where but the Env's block was written. -/
theorem below_keep {w w1 w2 : World} {g : Nat} {row : Option Nat} (h : Below w.heap.size w w1) (hk : KeepBut w1 w2 g row) (hg : w.heap.size ≤ g) (hr : row = none ∨ ∃ b, row = some b ∧ w.heap.size ≤ b) (h1 : w2.os = w1.os) (h2 : w2.tape = w1.tape) (h3 : w2.output = w1.output) : Below w.heap.size w w2 := by
  refine ⟨h1.trans h.os, h2.trans h.tape, h3.trans h.output, Nat.le_trans h.size hk.1, fun k hk' => ?_⟩
  refine (hk.2 k (Nat.lt_of_lt_of_le hk' h.size) (by omega) ?_).trans (h.block k hk')
  rcases hr with rfl | ⟨b, rfl, hb⟩
  · simp
  · intro e; cases e; omega
theorem alloc_size (w : World) (o : Obj) : (w.alloc o).heap.size = w.heap.size + 1 := by
  show (w.heap.push o).size = _
  simp
theorem two_size (w : World) (o1 o2 : Obj) : ((w.alloc o1).alloc o2).heap.size = w.heap.size + 2 := by rw [alloc_size, alloc_size]
theorem two_0 (w : World) (o1 o2 : Obj) : ((w.alloc o1).alloc o2).heap[w.heap.size]? = some o1 :=
  ((below_alloc (Below.refl (w.alloc o1).heap.size _) o2).block _ (by rw [alloc_size]; omega)).trans (heap_alloc_new w o1)
theorem two_1 (w : World) (o1 o2 : Obj) : ((w.alloc o1).alloc o2).heap[w.heap.size + 1]? = some o2 := by
  have h := heap_alloc_new (w.alloc o1) o2
  rw [alloc_size] at h
  exact h
theorem C_ev {w : World} {b b2 : Nat} {k f n : Int} {fr : Nat × Nat} (h1 : w.heap[b]? = some (.cells #[.int .i64 k, .int .i64 f, .slice (some ⟨b2, 0, none⟩) 1 1, .int .i64 n] 32 (0, 0)))
    (h2 : w.heap[b2]? = some (.cells #[.int .u8 120] 5 fr)) : Kd.C k32 w (some ⟨b, 0, none⟩) 1 [⟨k, f, [120], n⟩] := by
  have hb : Rd w (some ⟨b2, 0, none⟩) [120] := by
    refine ⟨rfl, by simp, fun _ => ⟨_, rfl, fun j hj => ?_⟩⟩
    have hj : j = 0 := by simp at hj; omega
    subst hj
    simp [World.cell?, Addr.add, h2]
  refine ⟨rfl, by simp, fun _ => ⟨_, rfl, fun j p hj => ?_⟩⟩
  have hj0 : j = 0 := by have := (List.getElem?_eq_some_iff.1 hj).1; simp at this; omega
  subst hj0
  cases hj
  refine ⟨_, rfl, k32_mk w ⟨k, f, [120], n⟩ (c2 := 1) (by simp) hb.C, fun i u hu => ?_⟩
  have hi : i = 0 ∨ i = 1 ∨ i = 2 ∨ i = 3 := by have := (List.getElem?_eq_some_iff.1 hu).1; simp at this; omega
  rcases hi with rfl | rfl | rfl | rfl <;> (cases hu; simp [World.cell?, Addr.add, h1])
set_option maxHeartbeats 4000000 in
set_option maxRecDepth 100000 in
theorem known.calls (w : World) : Calls Try.prog 6 #[] w fun e w' => e = .returned (.bool true) ∧ Below w.heap.size w w' := by
  have hcv := fun w => Lib.run_convert_bytes_const (P := Try.prog) w 22 5 #[.int .u8 97, .int .u8 98] 2 2 Try.underlying22 Try.underlying5
  have hcw := fun w => Lib.run_convert_bytes_const (P := Try.prog) w 22 5 #[.int .u8 120] 1 1 Try.underlying22 Try.underlying5
  go_enter Try.func6, Try.ntmps6
  go_wp2_with fail
  refine (env_New.calls _ 2 [97, 98] _ (rd_two _ 97 98 (2, 3) w.heap.size (heap_alloc_new w _)).C (by decide) (by decide)).mono ?_
  rintro e w1 ⟨g, A, c, rfl, hg, hE, hb⟩
  have B1 := Aside0.mk (below_step (below_alloc (Below.refl w.heap.size w) _) hb)
  have HE := Aside0.mk hE
  clear hb hE
  go_wp2_with fail
  refine (env_Take.calls g A c [97, 98] _ 1 w1 HE.out (by decide)).mono ?_
  rintro e w2 ⟨v0, A2, c2, rfl, hr, hE2, hk2, hos2, htp2, hout2⟩
  rw [show (takeN 1 [97, 98]).toNat = 1 from rfl] at hr hE2
  have hst := own_string (P := Try.prog) Try.underlying22 Try.underlying5 Try.underlying9 (Kd.own_of_R hr)
  rw [show strOfNums (List.take 1 [97, 98]) = ⟨#[97]⟩ from rfl] at hst
  have hwg : w.heap.size ≤ g := Nat.le_trans (below_alloc (Below.refl w.heap.size w) _).size hg
  have hB2 : Below w.heap.size w w2 := below_keep B1.out hk2 hwg (.inl rfl) hos2 htp2 hout2
  have B2 := Aside0.mk hB2
  have HE2 := Aside0.mk hE2
  clear hr hE2 hk2 hos2 htp2 hout2 hB2
  go_wp2_with fail
  refine (env_Left.calls g A2 c2 _ _ w2 HE2.out).mono ?_
  rintro e w3 ⟨rfl, hd⟩
  have B3 := Aside0.mk (below_step B2.out hd.below)
  have HE3 := Aside0.mk (HE2.out.keep hd.below)
  clear hd
  go_wp2_with fail
  have hal (o1 o2 : Obj) : Below w3.heap.size w3 ((w3.alloc o1).alloc o2) := below_alloc (below_alloc (Below.refl w3.heap.size w3) o1) o2
  have hg3 : g < w3.heap.size := (Array.getElem?_eq_some_iff.1 HE3.out.cell).1
  refine (env_Note.calls w.heap.size g A2 c2 _ _ [] (some ⟨w3.heap.size + 1, 0, none⟩) 1 [⟨0, 1, [120], 0⟩] _ (HE3.out.keep (hal _ _)) (Kd.R_nil _ _ _ _ _) hwg ?_ (by decide) (by intro x hx; simp at hx; subst hx; decide) (by decide)).mono ?_
  · intro w' hk _ _ _
    refine C_ev (b2 := w3.heap.size) (fr := (1, 2)) ?_ ?_
    · exact (hk.2 _ (by rw [two_size]; omega) (by omega) (by simp [Value.ownBlock])).trans (two_1 _ _ _)
    · exact (hk.2 _ (by rw [two_size]; omega) (by omega) (by simp [Value.ownBlock])).trans (two_0 _ _ _)
  rintro e w4 ⟨rfl, vl, hE4, hV4, hk4, _, ho4, ht4, hu4⟩
  have B4 := Aside0.mk (below_keep (below_step B3.out (hal _ _)) hk4 hwg (.inl rfl) ho4 ht4 hu4)
  have HE4 := Aside0.mk hE4
  have HV4 := Aside0.mk hV4
  clear hE4 hV4 hk4 ho4 ht4 hu4
  go_wp2_with fail
  refine (env_Trace.calls w.heap.size g A2 c2 _ vl [⟨0, 1, [120], 0⟩] w4 HE4.out HV4.out (by intro x hx; simp at hx; subst hx; decide) (by decide)).mono ?_
  rintro e w5 ⟨v5, rfl, hr5, hb5⟩
  obtain ⟨A5, c5, rfl⟩ := Kd.R_slice hr5
  have B5 := Aside0.mk (below_step B4.out hb5)
  have HE5 := Aside0.mk (HE4.out.keep hb5)
  have HV5 := Aside0.mk (show EvR w5 w.heap.size g A2 vl [⟨0, 1, [120], 0⟩] from Kd.R_below HV4.out hb5)
  clear hr5 hb5
  go_wp2_with fail
  refine (env_Output.calls w.heap.size g A2 c2 _ vl [⟨0, 1, [120], 0⟩] 1 w5 HE5.out HV5.out ?_ (by intro x hx; simp at hx; subst hx; decide) (by decide)).mono ?_
  · intro n
    rcases n with _ | n
    · decide
    · rw [List.take_of_length_le (by simp)]; decide
  rintro e w6 ⟨v6, rfl, hr6, hb6⟩
  have hst6 := own_string (P := Try.prog) Try.underlying22 Try.underlying5 Try.underlying9 (Kd.own_of_R hr6)
  rw [show strOfNums (outS 1 [⟨0, 1, [120], 0⟩]) = ⟨#[120]⟩ from rfl] at hst6
  have B6 := Aside0.mk (below_step B5.out hb6)
  have HE6 := Aside0.mk (HE5.out.keep hb6)
  have HV6 := Aside0.mk (show EvR w6 w.heap.size g A2 vl [⟨0, 1, [120], 0⟩] from Kd.R_below HV5.out hb6)
  clear hr6 hb6
  go_wp2_with fail
  refine (env_Output.calls w.heap.size g A2 c2 _ vl [⟨0, 1, [120], 0⟩] 2 w6 HE6.out HV6.out ?_ (by intro x hx; simp at hx; subst hx; decide) (by decide)).mono ?_
  · intro n
    rcases n with _ | n
    · decide
    · rw [List.take_of_length_le (by simp)]; decide
  rintro e w7 ⟨v7, rfl, hr7, hb7⟩
  obtain ⟨A7, c7, rfl⟩ := Kd.R_slice hr7
  have B7 := Aside0.mk (below_step B6.out hb7)
  have hl7 : (outS 2 [⟨0, 1, [120], 0⟩]).length = 0 := rfl
  clear hr7 hb7
  go_wp2_with fail
  go_ret
  exact ⟨by first | rfl | simp, B7.out⟩

end Go.Proofs.Ytodgpncfjogdbaa.Man
