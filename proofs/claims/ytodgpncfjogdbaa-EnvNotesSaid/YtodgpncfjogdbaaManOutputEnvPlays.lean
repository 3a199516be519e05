/- Contract of (*env.Env).Output: what was written to a file. No condition. -/
import Derived.Test.YtodgpncfjogdbaaManTraceEnvPlays
namespace Go.Proofs.Ytodgpncfjogdbaa.Man
open Go.RowKit Go.Proofs.YtodgpncfjogdbaaW.PrintWords Go.Proofs.YtodgpncfjogdbaaW.PrintLast Go.Proofs.YtodgpncfjogdbaaW.PrintMore Go.Proofs.Ytodgpncfjogdbaa.QEnvPlays
set_option linter.unusedVariables false
set_option linter.unusedSimpArgs false

/-- What was written to a file. -/
def outS (fd : Int) : List S32 → List Int
  | [] => []
  | x :: xs => (if x.f0 = 0 ∧ x.f1 = fd then x.f2 else []) ++ outS fd xs
theorem outS_append (fd : Int) (a b : List S32) : outS fd (a ++ b) = outS fd a ++ outS fd b := by
  induction a with
  | nil => rfl
  | cons x xs ih => simp [outS, ih]
theorem info_u8 : (Try.prog.info? 5).map (fun i => (i.zero, i.size, i.bytes)) = some (some (.int .u8 0), 1, 1) := by kernel_rfl
set_option maxHeartbeats 4000000 in
set_option maxRecDepth 100000 in
theorem env_Output.calls (base g : Nat) (A : Option Addr) (c : Nat) (xs : List Int) (vl : Value) (evs : List S32) (fd : Int) (w : World)
    (hE : EnvC w g A c xs vl) (hV : EvR w base g A vl evs) (hb : ∀ n, (outS fd (evs.take n)).length ≤ 1000000000) (hb2 : ∀ x ∈ evs, x.f2.length ≤ 1000000000) (hn : evs.length ≤ 1000000) :
    Calls Try.prog 14 #[.pointer (some ⟨g, 0, none⟩), .int .i64 fd] w fun e w' => ∃ v0, e = .returned v0 ∧ Kd.R (Kd.int .u8) 5 w' w.heap.size (fun _ => True) v0 (outS fd evs) ∧ Below w.heap.size w w' := by
  obtain ⟨Av, cv, rfl⟩ := Kd.R_slice hV
  obtain ⟨_, hcv, hC⟩ := Kd.R_reads' hV
  have hg1 : w.cell? ⟨g, 1, none⟩ = some (.slice Av evs.length cv) := by simp [World.cell?, hE.cell]
  have HC := Aside0.mk hC
  clear hC hV
  go_enter Try.func14, Try.ntmps14
  go_wp2_with fail
  go_loopg [5, 13] evs.length (fun kq v5 v13 w' => ∃ i : Nat, v13 = .int .i64 (i : Int) ∧ Aside0 (kq + i = evs.length) ∧ Aside0 (Kd.R (Kd.int .u8) 5 w' w.heap.size (fun _ => True) v5 (outS fd (evs.take i))) ∧ Aside0 (Below w.heap.size w w'))
  case atStart => exact ⟨0, by first | rfl | simp, ⟨by omega⟩, ⟨Kd.R_nil _ _ _ _ _⟩, ⟨Below.refl _ _⟩⟩
  case round =>
    obtain ⟨i, rfl, HN, HR, HB⟩ := hrel
    by_cases hi : i < evs.length
    · have C := Kd.C_below HC.out HB.out
      obtain ⟨ad, A2, c2, hA, h0, h1, h2, h3, hc2, hC2⟩ := at_T32 C (i : Int) (by omega) (by omega)
      rw [Int.toNat_natCast] at h0 h1 h2 h3
      obtain ⟨x, hx⟩ : ∃ x, rd_T32 evs (i : Int) = x := ⟨_, rfl⟩
      rw [hx] at h0 h1 h2 h3 hc2 hC2
      subst hA
      have i0 : ((i : Int) < (evs.length : Int)) = True := eq_true (by omega)
      have i1 : (0 ≤ (i : Int)) = True := eq_true (by omega)
      have hxi : evs[i] = x := by rw [← hx]; unfold rd_T32; rw [Int.toNat_natCast]; simp [List.getD, hi]
      have hlx : x.f2.length ≤ 1000000000 := hb2 x (by rw [← hxi]; simp)
      have hnx : outS fd (evs.take (i + 1)) = outS fd (evs.take i) ++ (if x.f0 = 0 ∧ x.f1 = fd then x.f2 else []) := by
        rw [List.take_add_one, List.getElem?_eq_getElem hi, hxi, outS_append]; simp [outS]
      have hly := hb i
      obtain ⟨y, hy⟩ : ∃ y, outS fd (evs.take i) = y := ⟨_, rfl⟩
      rw [hy] at HR hnx hly
      have HNX := Aside0.mk hnx
      have HC2 := Aside0.mk hC2
      clear hy hC2 C hxi hnx
      have HB1 (o : Obj) : Below wr.heap.size wr (wr.alloc o) := below_alloc (Below.refl wr.heap.size wr) o
      by_cases hk : x.f0 = 0 ∧ x.f1 = fd
      · have e0 : (x.f0 == 0) = true := by rw [hk.1]; rfl
        have e1 : (x.f1 == fd) = true := by rw [hk.2]; simp
        have HKK := Aside0.mk hk
        clear hk
        go_wp2_with (at_builtin; refine Kd.R_append_rows (Kd.int .u8) (w0 := w) w.heap.size rfl (.tmp 26) (.tmp 28) 22 5 (.int .u8 0) 1 rfl Try.underlying22 info_u8 rfl (by decide) (by omega) u5 y x.f2 _ _ _ (fun _ => True) (fun _ => False) rfl rfl ?aO ?aR (fun _ _ h => h) (fun _ h => h.elim) ?aF ?aB ?aS ?aL ?_; (case aO => exact Kd.R_below HR.out (HB1 _)); (case aR => exact Kd.C_alloc HC2.out _); (case aF => exact fun _ _ => trivial); (case aB => exact below_then HB.out HB.out.size (HB1 _)); (case aS => exact Nat.le_trans HB.out.size (HB1 _).size); (case aL => omega); intro v6 w6 hR6 hb6 hg6 hat6)
        go_roundg (gk - 1)
        case measure => have := HN.out; omega
        case rel => exact ⟨i + 1, by rw [Int.natCast_add]; rfl, ⟨by have := HN.out; omega⟩, ⟨by rw [HNX.out, if_pos HKK.out]; exact hR6⟩, ⟨hb6⟩⟩
      · have HKK := Aside0.mk hk
        by_cases k0 : x.f0 = 0
        · have e0 : (x.f0 == 0) = true := by rw [k0]; rfl
          have e1 : (x.f1 == fd) = false := by simp; exact fun h => hk ⟨k0, h⟩
          clear hk k0
          go_wp2_with fail
          go_roundg (gk - 1)
          case measure => have := HN.out; omega
          case rel => exact ⟨i + 1, by rw [Int.natCast_add]; rfl, ⟨by have := HN.out; omega⟩, ⟨by rw [HNX.out, if_neg HKK.out, List.append_nil]; exact Kd.R_below HR.out (HB1 _)⟩, ⟨below_then HB.out HB.out.size (HB1 _)⟩⟩
        · have e0 : (x.f0 == 0) = false := by simp; exact k0
          clear hk k0
          go_wp2_with fail
          go_roundg (gk - 1)
          case measure => have := HN.out; omega
          case rel => exact ⟨i + 1, by rw [Int.natCast_add]; rfl, ⟨by have := HN.out; omega⟩, ⟨by rw [HNX.out, if_neg HKK.out, List.append_nil]; exact Kd.R_below HR.out (HB1 _)⟩, ⟨below_then HB.out HB.out.size (HB1 _)⟩⟩
    · have i0 : ((i : Int) < (evs.length : Int)) = False := eq_false (by omega)
      have he : i = evs.length := by have := HN.out; omega
      go_wp2_with fail
      go_ret
      refine ⟨_, rfl, ?_, HB.out⟩
      have h := HR.out
      rw [he, List.take_length] at h
      exact h

end Go.Proofs.Ytodgpncfjogdbaa.Man
