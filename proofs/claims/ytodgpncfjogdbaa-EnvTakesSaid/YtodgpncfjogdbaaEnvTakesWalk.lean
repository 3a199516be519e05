/- The walk of EnvTakes: in whatever pieces input is taken, it is taken in order, once, and no more than there is. Conditions: those of the statement's arguments. -/
import Derived.Test.YtodgpncfjogdbaaEnvKnown
namespace Go.Proofs.Ytodgpncfjogdbaa.Man
open Go.RowKit Go.Proofs.YtodgpncfjogdbaaW.PrintWords Go.Proofs.YtodgpncfjogdbaaW.PrintLast Go.Proofs.YtodgpncfjogdbaaW.PrintMore Go.Proofs.Ytodgpncfjogdbaa.QEnvTakes
attribute [local go_sem] max2_int min2_int max_two min_two
set_option linter.unusedVariables false
set_option linter.unusedSimpArgs false

set_option maxHeartbeats 4000000 in
set_option maxRecDepth 100000 in
theorem envTakes.calls (A0 : Option Addr) (c0 : Nat) (l0 : List Int) (A1 : Option Addr) (c1 : Nat) (l1 : List Int) (w : World)
    (hr0 : Kd.C (Kd.int .u8) w A0 l0.length l0) (hc0 : l0.length ≤ c0) (hr1 : Kd.C (Kd.int .u8) w A1 l1.length l1) (hc1 : l1.length ≤ c1) (hu : ∀ x ∈ l1, 0 ≤ x ∧ x < 256) :
    Calls Try.prog 5 #[.slice A0 l0.length c0, .slice A1 l1.length c1] w fun e w' => e = .returned (.bool true) ∧ Below w.heap.size w w' := by
  have HR0 := Aside0.mk hr0
  have HR1 := Aside0.mk hr1
  clear hr0 hr1
  by_cases g0 : l0.length ≤ 300
  case neg =>
    have e0 : decide ((l0.length : Int) > 300) = true := by simp; omega
    go_enter Try.func5, Try.ntmps5
    go_wp2_with fail
    refine (known.calls w).mono ?_
    rintro e w1 ⟨rfl, hb⟩
    go_wp2_with fail
    go_ret
    exact ⟨rfl, hb⟩
  by_cases g1 : l1.length ≤ 30
  case neg =>
    have e0 : decide ((l0.length : Int) > 300) = false := by simp; omega
    have e1 : decide ((l1.length : Int) > 30) = true := by simp; omega
    go_enter Try.func5, Try.ntmps5
    go_wp2_with fail
    refine (known.calls w).mono ?_
    rintro e w1 ⟨rfl, hb⟩
    go_wp2_with fail
    go_ret
    exact ⟨rfl, hb⟩
  have e0 : decide ((l0.length : Int) > 300) = false := by simp; omega
  have e1 : decide ((l1.length : Int) > 30) = false := by simp; omega
  go_enter Try.func5, Try.ntmps5
  go_wp2_with fail
  refine (known.calls w).mono ?_
  rintro e w1 ⟨rfl, hb⟩
  have B1 := Aside0.mk hb
  clear hb
  go_wp2_with fail
  refine (env_New.calls A0 c0 l0 w1 (Kd.C_below HR0.out B1.out) hc0 (by omega)).mono ?_
  rintro e w2 ⟨g, A, c, rfl, hg, hE, hb⟩
  have B2 := Aside0.mk (below_step B1.out hb)
  have HE := Aside0.mk hE
  have hwg : w.heap.size ≤ g := Nat.le_trans B1.out.size hg
  clear hb hE
  go_wp2_with fail
  go_loopg [6, 7] l1.length (fun kq v6 v7 w' => ∃ (i n : Nat) (A' : Option Addr) (c' : Nat), v6 = .int .i64 (n : Int) ∧ v7 = .int .i64 (i : Int) ∧ Aside0 (kq + i = l1.length) ∧ Aside0 (n ≤ l0.length) ∧ Aside0 (EnvC w' g A' c' (l0.drop n) (.slice none 0 0)) ∧ Aside0 (Below w.heap.size w w'))
  case atStart => exact ⟨0, 0, A, c, by first | rfl | simp, by first | rfl | simp, ⟨by omega⟩, ⟨by omega⟩, ⟨by simpa using HE.out⟩, ⟨B2.out⟩⟩
  case round =>
    obtain ⟨i, n, A', c', rfl, rfl, HN, HM, HE, HB⟩ := hrel
    by_cases hi : i < l1.length
    · have i0 : ((i : Int) < (l1.length : Int)) = True := eq_true (by omega)
      have i1 : (0 ≤ (i : Int)) = True := eq_true (by omega)
      obtain ⟨ad, hA, hx⟩ := Kd.at_int (Kd.C_below HR1.out HB.out) (i : Int) (by omega) (by omega)
      rw [Int.toNat_natCast] at hx
      subst hA
      obtain ⟨nn, hnn⟩ : ∃ nn, wrap64 (wrap64 (rd l1 (i : Int)) - 20) = nn := ⟨_, rfl⟩
      have hM := HM.out
      have hdl : (l0.drop n).length = l0.length - n := List.length_drop
      obtain ⟨b0, b1⟩ := takeN_b nn (l0.drop n)
      obtain ⟨m, hm⟩ : ∃ m, takeN nn (l0.drop n) = m := ⟨_, rfl⟩
      rw [hm] at b0 b1
      rw [hdl] at b1
      have hmq := hm
      unfold takeN at hmq
      rw [hdl] at hmq
      obtain ⟨m1, hm1⟩ : ∃ m1, mx nn 0 = m1 := ⟨_, rfl⟩
      rw [hm1] at hmq
      have hm1' : (if nn < 0 then 0 else nn) = m1 := hm1
      have hwl : wrap64 ((l0.length : Int) - (n : Int)) = ((l0.length - n : Nat) : Int) := by unfold wrap64; omega
      have hm' : (if ((l0.length : Int) - (n : Int)) < m1 then ((l0.length : Int) - (n : Int)) else m1) = m := by
        rw [show ((l0.length : Int) - (n : Int)) = ((l0.length - n : Nat) : Int) from by omega]; exact hmq
      have HMM := Aside0.mk hm
      clear hm hmq hm1
      go_wp2_with fail
      refine (env_Take.calls g A' c' (l0.drop n) _ nn wr HE.out (by omega)).mono ?_
      rintro e w3 ⟨v0, A2, c2, rfl, hr, hE2, hk2, hos2, htp2, hout2⟩
      rw [HMM.out] at hr hE2
      have hB3 := below_keep HB.out hk2 hwg (.inl rfl) hos2 htp2 hout2
      obtain ⟨Ab, cb, eb⟩ := Kd.R_slice hr
      subst eb
      have hlt : ((l0.drop n).take m.toNat).length = m.toNat := by rw [List.length_take, hdl]; omega
      have hst := fun (m_ : Nat) => own_string (P := Try.prog) Try.underlying22 Try.underlying5 Try.underlying9 (Kd.own_of_R (Kd.R_drewN hr m_))
      rw [hlt] at hst
      have HE2 := Aside0.mk hE2
      have HB3 := Aside0.mk hB3
      clear hr hE2 hk2 hos2 htp2 hout2 hB3
      have hq0 : (m.toNat : Int) = m := by omega
      obtain ⟨i0', hi5, hz0, hz1, hz2⟩ := info_parts clone_info
      have hcut := cut_mid (P := Try.prog) 22 5 .i64 .i64 Try.underlying22 hi5 1 hz1 A0 l0.length c0 (n : Int) ((n : Int) + m) (by omega) (by omega) (by omega) hc0
      have hCm := Kd.C_mid (lo := n) (hi := n + m.toNat) HR0.out (by omega) (by omega) hc0
      obtain ⟨A9, hA9⟩ : ∃ A9 : Option Addr, (if c0 = n then A0 else A0.map (·.add (n * 1))) = A9 := ⟨_, rfl⟩
      rw [show (Kd.int .u8).sz = 1 from rfl, hA9] at hCm
      rw [Int.toNat_natCast, show ((n : Int) + m).toNat = n + m.toNat from by omega, hA9, show n + m.toNat - n = m.toNat from by omega] at hcut
      have hlm : ((l0.take (n + m.toNat)).drop n).length = m.toNat := by rw [List.length_drop, List.length_take]; omega
      have hdt : (l0.drop n).take m.toNat = (l0.take (n + m.toNat)).drop n := by rw [List.drop_take]; congr 1; omega
      have hcs := fun (m_ : Nat) => Kd.C_string (P := Try.prog) (c := c0 - n) Try.underlying22 Try.underlying5 Try.underlying9 (Kd.C_drewN (Kd.C_below hCm HB3.out) m_)
      rw [hlm] at hcs
      rw [hdt] at hst
      have hwa : wrap64 ((n : Int) + m) = (n : Int) + m := by unfold wrap64; omega
      have hwb : IntKind.i64.wrap ((n : Int) + m) = (n : Int) + m := (IntKind.wrap_i64 _).trans (by omega)
      have hne : (m == m) = true := by simp
      go_wp2_with fail
      have hdd : (l0.drop n).drop m.toNat = l0.drop (n + m.toNat) := by rw [List.drop_drop]
      have hll : (((l0.drop (n + m.toNat)).length : Nat) : Int) = (l0.length : Int) - ((n : Int) + m) := by rw [List.length_drop]; omega
      have hwc : wrap64 ((l0.length : Int) - ((n : Int) + m)) = (l0.length : Int) - ((n : Int) + m) := by unfold wrap64; omega
      have hwd : IntKind.i64.wrap ((l0.length : Int) - ((n : Int) + m)) = (l0.length : Int) - ((n : Int) + m) := (IntKind.wrap_i64 _).trans (by omega)
      have hE3 := HE2.out
      rw [hdd] at hE3
      have HE3 := Aside0.mk hE3
      clear hE3
      go_quiet (fail)
      have HE4 := Aside0.mk (HE3.out.keep (pw_below_drewN (Below.refl _ _) nq))
      have HB4 := Aside0.mk (below_then HB3.out HB3.out.size (pw_below_drewN (Below.refl _ _) nq))
      have hL := env_Left.calls g A2 c2 _ _ _ HE4.out
      rw [hll] at hL
      have HL := Aside0.mk hL
      clear hL hst hcs hcut
      go_wp2_with fail
      refine HL.out.mono ?_
      rintro e w5 ⟨rfl, hd⟩
      have HE5 := Aside0.mk (HE4.out.keep hd.below)
      have HB5 := Aside0.mk (below_then HB4.out HB4.out.size hd.below)
      clear hd
      go_wp2_with fail
      go_roundg (gk - 1)
      case measure => have := HN.out; omega
      case rel => exact ⟨i + 1, n + m.toNat, A2, c2, by rw [Int.natCast_add, hq0], by rw [Int.natCast_add]; rfl, ⟨by have := HN.out; omega⟩, ⟨by omega⟩, HE5, HB5⟩
    · have i0 : ((i : Int) < (l1.length : Int)) = False := eq_false (by omega)
      go_wp2_with fail
      refine (env_Trace.calls 0 g A' c' _ (.slice none 0 0) [] wr HE.out (Kd.R_nil _ _ _ _ _) (by simp) (by simp)).mono ?_
      rintro e w5 ⟨v5, rfl, hr5, hb5⟩
      obtain ⟨A5, c5, rfl⟩ := Kd.R_slice hr5
      have B5 := Aside0.mk (below_then HB.out HB.out.size hb5)
      clear hr5 hb5
      go_wp2_with fail
      go_ret
      exact ⟨by first | rfl | simp, B5.out⟩

theorem envTakes.walk (a0 : Option Addr) (len0 cap0 : Nat) (z0 : List Int) (a1 : Option Addr) (len1 cap1 : Nat) (z1 : List Int) (w : World)
    (w0 : (a0 = none ∧ len0 = 0 ∧ cap0 = 0 ∧ z0 = []) ∨ ∃ x, a0 = some x ∧ len0 ≤ cap0 ∧ cap0 ≤ maxLen ∧ z0.length = cap0 ∧ (∀ i, i < z0.length → w.cell? (x.add i) = some (.int .u8 (z0.getD i 0))) ∧ ∀ n ∈ z0, (Lit.int .u8 n).wf = true) (y0 : len0 * 1 ≤ 140737488351232)
    (w1 : (a1 = none ∧ len1 = 0 ∧ cap1 = 0 ∧ z1 = []) ∨ ∃ x, a1 = some x ∧ len1 ≤ cap1 ∧ cap1 ≤ maxLen ∧ z1.length = cap1 ∧ (∀ i, i < z1.length → w.cell? (x.add i) = some (.int .u8 (z1.getD i 0))) ∧ ∀ n ∈ z1, (Lit.int .u8 n).wf = true) (y1 : len1 * 1 ≤ 140737488351232) :
    Calls Try.prog 5 #[.slice a0 len0 cap0, .slice a1 len1 cap1] w fun e w' => e = .returned (.bool true) ∧ Below w.heap.size w w' := by
  obtain ⟨l0, rfl, hr0, hm0, hw0, hc0⟩ := ReadsInt.ofRowC w0
  obtain ⟨l1, rfl, hr1, hm1, hw1, hc1⟩ := ReadsInt.ofRowC w1
  exact envTakes.calls _ _ l0 _ _ l1 w (Kd.C_of_reads (d := (0 : Int)) (h1 := fun _ => rfl) hr0) hc0 (Kd.C_of_reads (d := (0 : Int)) (h1 := fun _ => rfl) hr1) hc1 (fun x hx => by
    have h := hw1 x hx
    simp only [Lit.wf, IntKind.min, IntKind.max, IntKind.signed, IntKind.bits, Bool.and_eq_true] at h
    simp at h
    omega)

end Go.Proofs.Ytodgpncfjogdbaa.Man
