/- The walk of EnvNotes: many events that are noted at once are noted one by one. Conditions: those of the statement's arguments. -/
import Derived.Test.YtodgpncfjogdbaaEnvKnownEnvPlays
import Derived.Test.YtodgpncfjogdbaaOpen
namespace Go.Proofs.Ytodgpncfjogdbaa.Man
open Go.RowKit Go.Proofs.YtodgpncfjogdbaaW.PrintWords Go.Proofs.YtodgpncfjogdbaaW.PrintLast Go.Proofs.YtodgpncfjogdbaaW.PrintMore Go.Proofs.Ytodgpncfjogdbaa.QEnvPlays
attribute [local go_sem] max2_int min2_int max_two min_two
set_option linter.unusedVariables false
set_option linter.unusedSimpArgs false

/-- One event, laid in memory. -/
theorem C_one {w : World} {b : Nat} {A2 : Option Addr} {c2 : Nat} {x : S32} (h1 : w.heap[b]? = some (.cells #[.int .i64 x.f0, .int .i64 x.f1, .slice A2 x.f2.length c2, .int .i64 x.f3] 32 (0, 0)))
    (hc2 : x.f2.length ≤ c2) (hb : Kd.C (Kd.int .u8) w A2 x.f2.length x.f2) : Kd.C k32 w (some ⟨b, 0, none⟩) 1 [x] := by
  refine ⟨rfl, by simp, fun _ => ⟨_, rfl, fun j p hj => ?_⟩⟩
  have hj0 : j = 0 := by have := (List.getElem?_eq_some_iff.1 hj).1; simp at this; omega
  subst hj0
  cases hj
  refine ⟨_, rfl, k32_mk w x (c2 := c2) hc2 hb, fun i u hu => ?_⟩
  have hi : i = 0 ∨ i = 1 ∨ i = 2 ∨ i = 3 := by have := (List.getElem?_eq_some_iff.1 hu).1; simp at this; omega
  rcases hi with rfl | rfl | rfl | rfl <;> (cases hu; simp [World.cell?, Addr.add, h1])
theorem EnvC.keepNil {w w1 : World} {g g' : Nat} {row : Option Nat} {A : Option Addr} {c : Nat} {vl : Value} (h : EnvC w g A c [] vl) (hk : KeepBut w w1 g' row) (hg : g ≠ g') (hr : some g ≠ row) : EnvC w1 g A c [] vl :=
  ⟨(hk.2 g (Array.getElem?_eq_some_iff.1 h.cell).1 hg hr).trans h.cell, ⟨rfl, by decide, fun h => absurd h (by simp)⟩, h.fit, fun ad e => ⟨(h.ne ad e).1, Nat.lt_of_lt_of_le (h.ne ad e).2 hk.1⟩⟩
theorem EnvC.lt {w : World} {g : Nat} {A : Option Addr} {c : Nat} {xs : List Int} {vl : Value} (h : EnvC w g A c xs vl) : g < w.heap.size := (Array.getElem?_eq_some_iff.1 h.cell).1
theorem R_blt {w : World} {base : Nat} {ok : Nat → Prop} {vl : Value} {evs : List S32} (h : Kd.R k32 32 w base ok vl evs) : ∀ k, vl.ownBlock = some k → base ≤ k ∧ k < w.heap.size := by
  intro k hk
  obtain ⟨_, inner, hown, _⟩ := h
  exact World.ownsRow.lt hown k hk
theorem events_l0 (l : List S32) (hl : l.length ≤ 1000000) : ∀ (m i : Nat), i + m = l.length → dovetailhelp_Events.l0 (m + 1) l l (i : Int) = some true := by
  intro m
  induction m with
  | zero =>
    intro i hi
    unfold dovetailhelp_Events.l0
    rw [if_neg (by omega)]
  | succ m ih =>
    intro i hi
    unfold dovetailhelp_Events.l0
    rw [if_pos (by omega), if_pos (by omega), if_pos (by omega), if_pos rfl, if_pos rfl, if_pos rfl, if_pos rfl, show wrap64 ((i : Int) + 1) = ((i + 1 : Nat) : Int) from by unfold wrap64; omega]
    exact ih (i + 1) (by omega)
theorem events_same (l : List S32) (hl : l.length ≤ 1000000) : dovetailhelp_Events.f (l.length + 1) l l = some true := by
  unfold dovetailhelp_Events.f
  rw [if_pos rfl]
  exact events_l0 l hl l.length 0 (by omega)
/-- What a slice of events, read as an argument, holds. -/
theorem opn32 : Opn.Opn Try.prog k32 32 (fun x => x.f2.length ≤ 140737488351232 ∧ ∀ b ∈ x.f2, 0 ≤ b ∧ b < 256) := by
  have h := Opn.Opn.iso (P := Try.prog) (f := fun x : S32 => (x.f0, x.f1, x.f2, x.f3)) (fun y => ⟨y.1, y.2.1, y.2.2.1, y.2.2.2⟩) (fun _ => rfl)
    (Opn.Opn.struct (t := 32) Try.underlying32 rfl (by kernel_rfl) (by kernel_rfl)
      (Opn.OpnAt.pair (Opn.OpnAt.one (Opn.Opn.int (k := .i64) (by kernel_rfl) (by kernel_rfl))) (Opn.OpnAt.pair (Opn.OpnAt.one (Opn.Opn.int (k := .i64) (by kernel_rfl) (by kernel_rfl)))
        (Opn.OpnAt.pair (Opn.OpnAt.one (Opn.Opn.slice (e := 5) (by kernel_rfl) (by kernel_rfl) (Opn.Opn.int (k := .u8) (by kernel_rfl) (by kernel_rfl)))) (Opn.OpnAt.one (Opn.Opn.int (k := .i64) (by kernel_rfl) (by kernel_rfl)))))))
  refine Opn.Opn.imp h fun x hx => ?_
  obtain ⟨_, _, ⟨h1, h2⟩, _⟩ := hx
  have h1' : x.f2.length * Try.prog.bytesOf 5 ≤ reachBytes := h1
  rw [show Try.prog.bytesOf 5 = 1 from by kernel_rfl] at h1'
  refine ⟨by have : reachBytes = 140737488351232 := rfl; omega, fun b hb => ?_⟩
  have h := h2 b hb
  simp only [Lit.wf, IntKind.min, IntKind.max, IntKind.signed, IntKind.bits, Bool.and_eq_true] at h
  simp at h
  omega

set_option maxHeartbeats 4000000 in
set_option maxRecDepth 100000 in
theorem envNotes.calls (A0 : Option Addr) (c0 : Nat) (l : List S32) (w : World)
    (hC : Kd.C k32 w A0 l.length l) (hc0 : l.length ≤ c0) (hu : ∀ x ∈ l, x.f2.length ≤ 140737488355328) :
    Calls Try.prog 4 #[.slice A0 l.length c0] w fun e w' => e = .returned (.bool true) ∧ Below w.heap.size w w' := by
  have HC := Aside0.mk hC
  have HU := Aside0.mk hu
  clear hC hu
  by_cases g0 : l.length ≤ 30
  case neg =>
    have e0 : decide ((l.length : Int) > 30) = true := by simp; omega
    go_enter Try.func4, Try.ntmps4
    go_wp2_with fail
    refine (known.calls w).mono ?_
    rintro e w1 ⟨rfl, hb⟩
    go_wp2_with fail
    go_ret
    exact ⟨rfl, hb⟩
  have e0 : decide ((l.length : Int) > 30) = false := by simp; omega
  go_enter Try.func4, Try.ntmps4
  go_wp2_with fail
  refine (known.calls w).mono ?_
  rintro e w1 ⟨rfl, hb⟩
  have B1 := Aside0.mk hb
  clear hb
  go_wp2_with fail
  refine (env_New.calls none 0 [] w1 ⟨rfl, by decide, fun h => absurd h (by simp)⟩ (by decide) (by decide)).mono ?_
  rintro e w2 ⟨ga, Aa, ca, rfl, hga, hEa, hb⟩
  have B2 := Aside0.mk (below_step B1.out hb)
  have hgw : w.heap.size ≤ ga := Nat.le_trans B1.out.size hga
  have HEa := Aside0.mk hEa
  clear hEa hb
  go_wp2_with fail
  refine (env_New.calls none 0 [] w2 ⟨rfl, by decide, fun h => absurd h (by simp)⟩ (by decide) (by decide)).mono ?_
  rintro e w3 ⟨gb, Ab, cb, rfl, hgb, hEb, hb⟩
  have B3 := Aside0.mk (below_step B2.out hb)
  have hab : ga < gb := Nat.lt_of_lt_of_le HEa.out.lt hgb
  have HEa3 := Aside0.mk (HEa.out.keep hb)
  have HEb3 := Aside0.mk hEb
  clear hEb hb HEa
  go_wp2_with fail
  refine (env_Note.calls w.heap.size ga Aa ca [] (.slice none 0 0) [] A0 c0 l w3 HEa3.out (Kd.R_nil _ _ _ _ _) hgw ?_ hc0 HU.out (by simp; omega)).mono ?_
  · intro w' hk h1 h2 h3
    exact Kd.C_below HC.out (below_keep B3.out hk hgw (.inl rfl) h1 h2 h3)
  rintro e w4 ⟨rfl, vla, hEa4, hVa4, hk4, hown4, ho4, ht4, hu4⟩
  have B4 := Aside0.mk (below_keep B3.out hk4 hgw (.inl rfl) ho4 ht4 hu4)
  have HEa4 := Aside0.mk hEa4
  have HEb4 := Aside0.mk (HEb3.out.keepNil hk4 (by omega) (by simp [Value.ownBlock]))
  have hgb4 := HEb4.out.lt
  rw [List.nil_append] at hVa4
  have HVa4 := Aside0.mk (Kd.R_mono (Kd.R_bound (Kd.R_types hVa4 HEb4.out.cell (by decide))) (ok' := fun k => ((k ≠ ga ∧ ∀ ad, Aa = some ad → k ≠ ad.block) ∧ k ≠ gb) ∧ k < w4.heap.size) (fun k hk => ⟨hk.1, hk.2.2.1⟩))
  clear hEa4 hVa4 hk4 hown4 ho4 ht4 hu4 HEa3 HEb3
  go_wp2_with fail
  go_loopg [5] l.length (fun kq v5 w' => ∃ (i : Nat) (vlb : Value), v5 = .int .i64 (i : Int) ∧ Aside0 (kq + i = l.length) ∧ Aside0 (EnvC w' ga Aa ca [] vla) ∧ Aside0 (Kd.R k32 32 w' w.heap.size (fun k => ((k ≠ ga ∧ ∀ ad, Aa = some ad → k ≠ ad.block) ∧ k ≠ gb) ∧ k < w4.heap.size) vla l) ∧ Aside0 (EnvC w' gb Ab cb [] vlb) ∧ Aside0 (EvR w' w.heap.size gb Ab vlb (l.take i)) ∧ Aside0 (vlb.ownBlock = none ∨ ∃ b, vlb.ownBlock = some b ∧ w4.heap.size ≤ b) ∧ Aside0 (w4.heap.size ≤ w'.heap.size) ∧ Aside0 (Below w.heap.size w w'))
  case atStart => exact ⟨0, .slice none 0 0, by first | rfl | simp, ⟨by omega⟩, HEa4, HVa4, HEb4, ⟨Kd.R_nil _ _ _ _ _⟩, ⟨.inl rfl⟩, ⟨Nat.le_refl _⟩, B4⟩
  case round =>
    obtain ⟨i, vlb, rfl, HN, HEa, HVa, HEb, HVb, HO, HZ, HB⟩ := hrel
    by_cases hi : i < l.length
    · obtain ⟨ad, A2, c2, hA, k0, k1, k2, k3, hc2, hC2⟩ := at_T32 HC.out (i : Int) (by omega) (by omega)
      rw [Int.toNat_natCast] at k0 k1 k2 k3
      obtain ⟨x, hx⟩ : ∃ x, rd_T32 l (i : Int) = x := ⟨_, rfl⟩
      rw [hx] at k0 k1 k2 k3 hc2 hC2
      have h0 := pw_cell_below HB.out k0
      have h1 := pw_cell_below HB.out k1
      have h2 := pw_cell_below HB.out k2
      have h3 := pw_cell_below HB.out k3
      subst hA
      have i0 : ((i : Int) < (l.length : Int)) = True := eq_true (by omega)
      have i1 : (0 ≤ (i : Int)) = True := eq_true (by omega)
      have hxi : l[i] = x := by rw [← hx]; unfold rd_T32; rw [Int.toNat_natCast]; simp [List.getD, hi]
      have hxl : x ∈ l := by rw [← hxi]; simp
      have HX := Aside0.mk (⟨hxi, hxl⟩ : _ ∧ _)
      have HC2 := Aside0.mk hC2
      clear hC2 k0 k1 k2 k3 hx hxi hxl
      by_cases g1 : x.f2.length ≤ 50
      case neg =>
        have e1 : decide ((x.f2.length : Int) > 50) = true := by simp; omega
        go_wp2_with fail
        go_ret
        exact ⟨rfl, HB.out⟩
      have e1 : decide ((x.f2.length : Int) > 50) = false := by simp; omega
      go_wp2_with fail
      have hal (o : Obj) : Below wr.heap.size wr (wr.alloc o) := below_alloc (Below.refl wr.heap.size wr) o
      have hgb := HEb.out.lt
      have hga := HEa.out.lt
      have hvb := R_blt HVb.out
      have hBw (o : Obj) : Below w.heap.size w (wr.alloc o) := below_then HB.out HB.out.size (hal o)
      refine (env_Note.calls w.heap.size gb Ab cb [] vlb (l.take i) (some ⟨wr.heap.size, 0, none⟩) 1 [x] _ (HEb.out.keep (hal _)) (Kd.R_below HVb.out (hal _)) (by omega) ?_ (by simp) (by intro y hy; simp at hy; subst hy; exact HU.out _ HX.out.2) (by simp; omega)).mono ?_
      · intro w' hk h1 h2 h3
        have hne : some wr.heap.size ≠ vlb.ownBlock := fun e => by have := (hvb _ e.symm).2; omega
        have hB' : Below w.heap.size w w' := below_keep (hBw _) hk (by omega) (by rcases HO.out with h | ⟨b, h, hb⟩; exact .inl h; exact .inr ⟨b, h, by have := B4.out.size; omega⟩) h1 h2 h3
        refine C_one ((hk.2 _ (by rw [alloc_size]; omega) (by omega) hne).trans (heap_alloc_new wr _)) hc2 (Kd.C_below HC2.out hB')
      rintro e w5 ⟨rfl, vl5, hE5, hV5, hk5, hown5, ho5, ht5, hu5⟩
      have hB5 : Below w.heap.size w w5 := below_keep (hBw _) hk5 (by omega) (by rcases HO.out with h | ⟨b, h, hb⟩; exact .inl h; exact .inr ⟨b, h, by have := B4.out.size; omega⟩) ho5 ht5 hu5
      have hEa5 : EnvC w5 ga Aa ca [] vla := (HEa.out.keep (hal _)).keepNil hk5 (by omega) (fun e => by rcases HO.out with h | ⟨b, h, hb⟩; rw [h] at e; cases e; rw [h] at e; cases e; have := HEa4.out.lt; omega)
      have hVa5 := Kd.R_step (w1 := w5) (Kd.R_below HVa.out (hal _)) (fun k hk hlt => hk5.2 k hlt hk.1.2 (fun e => by rcases HO.out with h | ⟨b, h, hb⟩; rw [h] at e; cases e; rw [h] at e; cases e; omega))
      have htk : l.take i ++ [x] = l.take (i + 1) := by rw [List.take_add_one, List.getElem?_eq_getElem hi, HX.out.1]; simp
      rw [htk] at hV5
      have hO5 : vl5.ownBlock = none ∨ ∃ b, vl5.ownBlock = some b ∧ w4.heap.size ≤ b := by
        rcases hown5 with h | ⟨b, h, hb⟩
        · rw [h]; exact HO.out
        · rw [alloc_size] at hb; have := HZ.out; exact .inr ⟨b, h, by omega⟩
      have hZ5 : w4.heap.size ≤ w5.heap.size := by have h1 := hk5.1; rw [alloc_size] at h1; have := HZ.out; omega
      have HEa5 := Aside0.mk hEa5
      have HVa5 := Aside0.mk hVa5
      have HE5 := Aside0.mk hE5
      have HV5 := Aside0.mk hV5
      have HB5 := Aside0.mk hB5
      have HO5 := Aside0.mk hO5
      have HZ5 := Aside0.mk hZ5
      clear hEa5 hVa5 hE5 hV5 hB5 hO5 hZ5 hk5 hown5 ho5 ht5 hu5 hal hBw hvb htk
      go_wp2_with fail
      go_roundg (gk - 1)
      case measure => have := HN.out; omega
      case rel => exact ⟨i + 1, vl5, by rw [Int.natCast_add]; rfl, ⟨by have := HN.out; omega⟩, HEa5, HVa5, HE5, HV5, HO5, HZ5, HB5⟩
    · have i0 : ((i : Int) < (l.length : Int)) = False := eq_false (by omega)
      have he : i = l.length := by have := HN.out; omega
      subst he
      have HV := HVb.out
      rw [List.take_length] at HV
      have HVb := Aside0.mk HV
      clear HV
      have hgaw : w.heap.size ≤ ga := hgw
      go_wp2_with fail
      refine (env_Trace.calls w.heap.size ga Aa ca [] vla l wr HEa.out (Kd.R_mono HVa.out (fun k hk => hk.1.1)) HU.out (by omega)).mono ?_
      rintro e w5 ⟨v5, rfl, hr5, hb5⟩
      obtain ⟨A5, c5, e5⟩ := Kd.R_slice hr5
      subst e5
      obtain ⟨_, hc5, hC5⟩ := Kd.R_reads' hr5
      have HB5 := Aside0.mk (below_then HB.out HB.out.size hb5)
      have HEb5 := Aside0.mk (HEb.out.keep hb5)
      have HVb5 := Aside0.mk (show EvR w5 w.heap.size gb Ab vlb l from Kd.R_below HVb.out hb5)
      have HC5 := Aside0.mk hC5
      clear hr5 hb5 hC5
      go_wp2_with fail
      refine (dovetailhelp_Events.calls (l.length + 1) A5 c5 l A0 c0 l true w5 HC5.out hc5 (Kd.C_below HC.out HB5.out) hc0 (events_same l (by omega))).mono ?_
      rintro e w6 ⟨rfl, hd⟩
      have HB6 := Aside0.mk (below_then HB5.out HB5.out.size hd.below)
      have HEb6 := Aside0.mk (HEb5.out.keep hd.below)
      have HVb6 := Aside0.mk (show EvR w6 w.heap.size gb Ab vlb l from Kd.R_below HVb5.out hd.below)
      clear hd
      go_wp2_with fail
      refine (env_Trace.calls w.heap.size gb Ab cb [] vlb l w6 HEb6.out HVb6.out HU.out (by omega)).mono ?_
      rintro e w7 ⟨v7, rfl, hr7, hb7⟩
      obtain ⟨A7, c7, e7⟩ := Kd.R_slice hr7
      subst e7
      obtain ⟨_, hc7, hC7⟩ := Kd.R_reads' hr7
      have HB7 := Aside0.mk (below_then HB6.out HB6.out.size hb7)
      have HC7 := Aside0.mk hC7
      clear hr7 hb7 hC7
      go_wp2_with fail
      refine (dovetailhelp_Events.calls (l.length + 1) A7 c7 l A0 c0 l true w7 HC7.out hc7 (Kd.C_below HC.out HB7.out) hc0 (events_same l (by omega))).mono ?_
      rintro e w8 ⟨rfl, hd⟩
      have HB8 := Aside0.mk (below_then HB7.out HB7.out.size hd.below)
      clear hd
      go_wp2_with fail
      go_ret
      exact ⟨rfl, HB8.out⟩
theorem envNotes.walk (a0 : Option Addr) (cap0 : Nat) (z0 : List S32) (w : World) (hc : z0.length ≤ cap0) (hC : Kd.C k32 w a0 z0.length z0) (_hB : z0.length * Try.prog.bytesOf 32 ≤ 140737488351232)
    (hE : ∀ x ∈ z0, x.f2.length ≤ 140737488351232 ∧ ∀ b ∈ x.f2, 0 ≤ b ∧ b < 256) :
    Calls Try.prog 4 #[.slice a0 z0.length cap0] w fun e w' => e = .returned (.bool true) ∧ Below w.heap.size w w' :=
  envNotes.calls a0 cap0 z0 w hC hc (fun x hx => by have := (hE x hx).1; omega)

end Go.Proofs.Ytodgpncfjogdbaa.Man
