/- Contract of (*env.Env).Trace: the events, each with bytes of its own. No condition. -/
import Derived.Test.YtodgpncfjogdbaaManNoteEnvPlays
namespace Go.Proofs.Ytodgpncfjogdbaa.Man
open Go.RowKit Go.Proofs.YtodgpncfjogdbaaW.PrintWords Go.Proofs.YtodgpncfjogdbaaW.PrintLast Go.Proofs.YtodgpncfjogdbaaW.PrintMore Go.Proofs.Ytodgpncfjogdbaa.QEnvPlays
set_option linter.unusedVariables false
set_option linter.unusedSimpArgs false

set_option maxHeartbeats 4000000 in
set_option maxRecDepth 100000 in
theorem env_Trace.calls (base g : Nat) (A : Option Addr) (c : Nat) (xs : List Int) (vl : Value) (evs : List S32) (w : World)
    (hE : EnvC w g A c xs vl) (hV : EvR w base g A vl evs) (hb : ∀ x ∈ evs, x.f2.length ≤ 140737488355328) (hn : evs.length ≤ 1000000) :
    Calls Try.prog 13 #[.pointer (some ⟨g, 0, none⟩)] w fun e w' => ∃ v0, e = .returned v0 ∧ Kd.R k32 32 w' w.heap.size (fun _ => True) v0 evs ∧ Below w.heap.size w w' := by
  obtain ⟨Av, cv, rfl⟩ := Kd.R_slice hV
  obtain ⟨_, hcv, hC⟩ := Kd.R_reads' hV
  have hg1 : w.cell? ⟨g, 1, none⟩ = some (.slice Av evs.length cv) := by simp [World.cell?, hE.cell]
  have HC := Aside0.mk hC
  clear hC hV
  go_enter Try.func13, Try.ntmps13
  go_wp2_with fail
  go_loopg [3, 11] evs.length (fun kq v3 v11 w' => ∃ i : Nat, v11 = .int .i64 (i : Int) ∧ Aside0 (kq + i = evs.length) ∧ Aside0 (Kd.R k32 32 w' w.heap.size (fun _ => True) v3 (evs.take i)) ∧ Aside0 (Below w.heap.size w w'))
  case atStart => exact ⟨0, by first | rfl | simp, ⟨by omega⟩, ⟨Kd.R_nil _ _ _ _ _⟩, ⟨Below.refl _ _⟩⟩
  case round =>
    obtain ⟨i, rfl, HN, HR, HB⟩ := hrel
    by_cases hi : i < evs.length
    · have C := Kd.C_below HC.out HB.out
      obtain ⟨ad, A2, c2, hA, h0, h1, h2, h3, hc2, hC2⟩ := at_T32 C (i : Int) (by omega) (by omega)
      rw [Int.toNat_natCast] at h0 h1 h2 h3
      obtain ⟨x, hx⟩ : ∃ x, rd_T32 evs (i : Int) = x := ⟨_, rfl⟩
      rw [hx] at h0 h1 h2 h3 hc2 hC2
      subst hA
      have i0 : ((i : Int) < (evs.length : Int)) = True := eq_true (by omega)
      have i1 : (0 ≤ (i : Int)) = True := eq_true (by omega)
      have hxi : evs[i] = x := by rw [← hx]; unfold rd_T32; rw [Int.toNat_natCast]; simp [List.getD, hi]
      have HF : env_own.f x.f0 x.f1 x.f2 x.f3 = some (x.f0, x.f1, x.f2, x.f3) := by
        have hxl : x ∈ evs := by rw [← hxi]; simp
        unfold env_own.f slices_Clone_byte_byte.f
        rw [if_pos (hb x hxl)]; rfl
      obtain ⟨y, hy⟩ : ∃ y, evs.take i = y := ⟨_, rfl⟩
      obtain ⟨y2, hy2⟩ : ∃ y2, y ++ [x] = y2 := ⟨_, rfl⟩
      have hy3 : y2 = evs.take (i + 1) := by rw [← hy2, ← hy, List.take_add_one, List.getElem?_eq_getElem hi, hxi]; simp
      have hln4 : (y.length + 1) * 48 ≤ 140737488355328 := by rw [← hy, List.length_take]; omega
      rw [hy] at HR
      have HY3 := Aside0.mk hy3
      have HY2 := Aside0.mk hy2
      have HC2 := Aside0.mk hC2
      have hvb : ∀ k, u3.ownBlock = some k → k < wr.heap.size := by
        intro k hk
        obtain ⟨_, inner, hown, _⟩ := HR.out
        exact (World.ownsRow.lt hown k hk).2
      have HVB := Aside0.mk hvb
      clear hy hy2 hy3 hC2 C hxi hvb
      go_wp2_with fail
      refine (env_own.calls x.f0 x.f1 A2 c2 x.f2 x.f3 x.f0 x.f1 x.f2 x.f3 _ (Kd.C_alloc HC2.out _) hc2 HF).mono ?_
      rintro _ w4 ⟨v2, rfl, hr4, hb4⟩
      have hb4' : Below wr.heap.size wr w4 := below_step (below_alloc (Below.refl wr.heap.size wr) _) hb4
      have hB4 := below_then HB.out HB.out.size hb4'
      have hR4 : Kd.R k32 32 w4 w.heap.size (fun _ => True) u3 y := Kd.R_below HR.out hb4'
      have hsz4 := hb4'.size
      have hwz := HB.out.size
      have hp4 : k32.M w4 w.heap.size (fun k => wr.heap.size ≤ k) x [.int .i64 x.f0, .int .i64 x.f1, v2, .int .i64 x.f3] := k32_mkM _ _ _ x (R_up hr4 (Nat.le_trans HB.out.size (below_alloc (Below.refl wr.heap.size wr) _).size) (below_alloc (Below.refl wr.heap.size wr) _).size)
      have hokp4 : ∀ k, wr.heap.size ≤ k → True ∧ some k ≠ u3.ownBlock := fun k hk => ⟨trivial, fun e => by have := HVB.out k e.symm; omega⟩
      have hfr4 : ∀ k, w4.heap.size ≤ k → True := fun k hk => trivial
      have hbs4 : w.heap.size ≤ w4.heap.size := by omega
      clear hr4
      go_wp2_with (at_builtin; refine Kd.R_append k32 (w0 := w) w.heap.size rfl (.tmp 15) (.tmp 18) 28 32 (.agg #[.int .i64 0, .int .i64 0, .slice none 0 0, .int .i64 0]) 48 rfl Try.underlying28 info_ev rfl (by decide) (by omega) u3 y x [.int .i64 x.f0, .int .i64 x.f1, v2, .int .i64 x.f3] (fun _ => True) (fun k => wr.heap.size ≤ k) rfl rfl hp4 hokp4 hfr4 hR4 hB4 hbs4 hln4 ?_; intro v5 w5 hR5 hb5 hg5 hat5)
      rw [HY2.out, HY3.out] at hR5
      go_roundg (gk - 1)
      case measure => have := HN.out; omega
      case rel => exact ⟨i + 1, by rw [Int.natCast_add]; rfl, ⟨by have := HN.out; omega⟩, ⟨hR5⟩, ⟨hb5⟩⟩
    · have i0 : ((i : Int) < (evs.length : Int)) = False := eq_false (by omega)
      have he : i = evs.length := by have := HN.out; omega
      go_wp2_with fail
      go_ret
      refine ⟨_, rfl, ?_, HB.out⟩
      have h := HR.out
      rw [he, List.take_length] at h
      exact h

end Go.Proofs.Ytodgpncfjogdbaa.Man
