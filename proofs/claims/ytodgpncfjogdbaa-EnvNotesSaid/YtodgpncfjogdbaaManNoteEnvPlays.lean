/- Contract of (*env.Env).Note: events behind those that are there, each with bytes of its own. No condition. -/
import Derived.Test.YtodgpncfjogdbaaManEnv
import Derived.Test.YtodgpncfjogdbaaQEnvPlaysx1
import Derived.Deep.RegionLaw
namespace Go.Proofs.Ytodgpncfjogdbaa.Man
open Go.RowKit Go.Proofs.YtodgpncfjogdbaaW.PrintWords Go.Proofs.YtodgpncfjogdbaaW.PrintLast Go.Proofs.YtodgpncfjogdbaaW.PrintMore Go.Proofs.Ytodgpncfjogdbaa.QEnvPlays
set_option linter.unusedVariables false
set_option linter.unusedSimpArgs false

/-- The events of an Env: a row of the Env's own, none of it the Env's block nor its bytes' block. -/
def EvR (w : World) (base g : Nat) (A : Option Addr) (vl : Value) (evs : List S32) : Prop :=
  Kd.R k32 32 w base (fun k => k ≠ g ∧ ∀ ad, A = some ad → k ≠ ad.block) vl evs
theorem w64_nat (i : Nat) (h : i + 1 ≤ 1000000) : Value.int .i64 (wrap64 ((i : Int) + 1)) = Value.int .i64 ((i + 1 : Nat) : Int) := by
  congr 1; unfold wrap64; omega
theorem info_ev : (Try.prog.info? 32).map (fun i => (i.zero, i.size, i.bytes)) = some (some (.agg #[.int .i64 0, .int .i64 0, .slice none 0 0, .int .i64 0]), 4, 48) := by kernel_rfl
theorem R_up {w : World} {b0 base n : Nat} {ok : Nat → Prop} {v : Value} {xs : List Int} (h : Kd.R (Kd.int .u8) 5 w b0 ok v xs) (hb : base ≤ b0) (hn : n ≤ b0) : Kd.R (Kd.int .u8) 5 w base (fun k => n ≤ k) v xs := by
  have ho := Kd.own_of_R h
  have hlt := World.ownsRow.lt ho
  refine Kd.R_of_own ⟨ho.1, ?_⟩ (fun k hk => Nat.le_trans hn (hlt k hk).1)
  rcases ho.2 with h | ⟨g, cap, cur, e, h1, h2⟩
  · exact .inl h
  · exact .inr ⟨g, cap, cur, e, Nat.le_trans hb h1, h2⟩
set_option maxHeartbeats 4000000 in
set_option maxRecDepth 100000 in
theorem env_Note.calls (base g : Nat) (A : Option Addr) (c : Nat) (xs : List Int) (vl : Value) (evs : List S32) (Al : Option Addr) (cl : Nat) (l : List S32) (w : World)
    (hE : EnvC w g A c xs vl) (hV : EvR w base g A vl evs) (hbase : base ≤ g) (hL : ∀ w', KeepBut w w' g vl.ownBlock → w'.os = w.os → w'.tape = w.tape → w'.output = w.output → Kd.C k32 w' Al l.length l) (hcl : l.length ≤ cl)
    (hb : ∀ x ∈ l, x.f2.length ≤ 140737488355328) (hn : evs.length + l.length ≤ 1000000) :
    Calls Try.prog 8 #[.pointer (some ⟨g, 0, none⟩), .slice Al l.length cl] w fun e w' =>
      e = .returned (.tuple #[]) ∧ ∃ vl', EnvC w' g A c xs vl' ∧ EvR w' base g A vl' (evs ++ l) ∧ KeepBut w w' g vl.ownBlock ∧ (vl'.ownBlock = vl.ownBlock ∨ ∃ b, vl'.ownBlock = some b ∧ w.heap.size ≤ b) ∧ w'.os = w.os ∧ w'.tape = w.tape ∧ w'.output = w.output := by
  go_enter Try.func8, Try.ntmps8
  go_wp2_with fail
  go_loopg [8] l.length (fun kq v8 w' => ∃ (i : Nat) (vl1 : Value), v8 = .int .i64 (i : Int) ∧ Aside0 (kq + i = l.length) ∧ Aside0 (EnvC w' g A c xs vl1) ∧ Aside0 (EvR w' base g A vl1 (evs ++ l.take i)) ∧ Aside0 (KeepBut w w' g vl.ownBlock) ∧ Aside0 (vl1.ownBlock = vl.ownBlock ∨ ∃ b, vl1.ownBlock = some b ∧ w.heap.size ≤ b) ∧ Aside0 (w'.os = w.os ∧ w'.tape = w.tape ∧ w'.output = w.output))
  case atStart => exact ⟨0, vl, by first | rfl | simp, ⟨by omega⟩, ⟨hE⟩, ⟨by simpa using hV⟩, ⟨KeepBut.refl _ _ _⟩, ⟨.inl rfl⟩, ⟨rfl, rfl, rfl⟩⟩
  case round =>
    obtain ⟨i, vl1, rfl, HN, HE, HV, HK, HO, HS⟩ := hrel
    by_cases hi : i < l.length
    · have C := hL wr HK.out HS.out.1 HS.out.2.1 HS.out.2.2
      obtain ⟨ad, A2, c2, hA, h0, h1, h2, h3, hc2, hC2⟩ := at_T32 C (i : Int) (by omega) (by omega)
      rw [Int.toNat_natCast] at h0 h1 h2 h3
      obtain ⟨x, hx⟩ : ∃ x, rd_T32 l (i : Int) = x := ⟨_, rfl⟩
      rw [hx] at h0 h1 h2 h3 hc2 hC2
      subst hA
      have i0 : ((i : Int) < (l.length : Int)) = True := eq_true (by omega)
      have i1 : (0 ≤ (i : Int)) = True := eq_true (by omega)
      have HC2 := Aside0.mk hC2
      clear hE hV hC2 C
      obtain ⟨y, hy⟩ : ∃ y, evs ++ l.take i = y := ⟨_, rfl⟩
      obtain ⟨y2, hy2⟩ : ∃ y2, y ++ [x] = y2 := ⟨_, rfl⟩
      have hy3 : y2 = evs ++ l.take (i + 1) := by
        have hxi : l[i] = x := by rw [← hx]; unfold rd_T32; rw [Int.toNat_natCast]; simp [List.getD, hi]
        rw [← hy2, ← hy, List.take_add_one, List.getElem?_eq_getElem hi, hxi]; simp
      have hln4 : (y.length + 1) * 48 ≤ 140737488355328 := by rw [← hy, List.length_append, List.length_take]; omega
      rw [hy] at HV
      have HY3 := Aside0.mk hy3
      have HY2 := Aside0.mk hy2
      clear hy hy2 hy3
      have HF : env_own.f x.f0 x.f1 x.f2 x.f3 = some (x.f0, x.f1, x.f2, x.f3) := by
        have hxl : x ∈ l := by rw [← hx]; unfold rd_T32; rw [Int.toNat_natCast]; simp [List.getD, hi]
        unfold env_own.f slices_Clone_byte_byte.f
        rw [if_pos (hb x hxl)]; rfl
      have hg0 : wr.cell? ⟨g, 1, none⟩ = some vl1 := by simp [World.cell?, HE.out.cell]
      have hgl : g < wr.heap.size := (Array.getElem?_eq_some_iff.1 HE.out.cell).1
      have hvb : ∀ k, vl1.ownBlock = some k → k < wr.heap.size ∧ k ≠ g ∧ (∀ ad, A = some ad → k ≠ ad.block) := by
        intro k hk
        have hR := HV.out
        unfold EvR at hR
        refine ⟨?_, hR.1 k hk⟩
        obtain ⟨_, inner, hown, _⟩ := hR
        exact (World.ownsRow.lt hown k hk).2
      have HVB := Aside0.mk hvb
      clear hvb
      go_wp2_with fail
      go_region_law (first
        | (go_simp
           refine (env_own.calls x.f0 x.f1 A2 c2 x.f2 x.f3 x.f0 x.f1 x.f2 x.f3 _ (Kd.C_drew (Kd.C_alloc HC2.out _)) hc2 HF).mono ?_
           rintro _ w4 ⟨v2, rfl, hr4, hb4⟩
           have hb4' : Below wr.heap.size wr w4 := below_step (below_drew (below_alloc (Below.refl wr.heap.size wr) _)) hb4
           have hE4 := HE.out.keep hb4'
           have hg4 : w4.cell? ⟨g, 1, none⟩ = some vl1 := by simp [World.cell?, hE4.cell]
           have hg4' : ∀ o, (w4.alloc o).cell? ⟨g, 1, none⟩ = some vl1 := fun o => Lib.cell?_alloc_some _ hg4
           have hR4 : Kd.R k32 32 w4 base (fun k => k ≠ g ∧ ∀ ad, A = some ad → k ≠ ad.block) vl1 y := Kd.R_below HV.out hb4'
           have hsz4 := hb4'.size
           have hp4 : k32.M w4 base (fun k => wr.heap.size ≤ k) x [.int .i64 x.f0, .int .i64 x.f1, v2, .int .i64 x.f3] := k32_mkM _ _ _ x (R_up hr4 (Nat.le_trans (Nat.le_trans hbase (Nat.le_of_lt hgl)) (below_drew (below_alloc (Below.refl wr.heap.size wr) _)).size) (below_drew (below_alloc (Below.refl wr.heap.size wr) _)).size)
           have hokp4 : ∀ k, wr.heap.size ≤ k → (k ≠ g ∧ ∀ ad, A = some ad → k ≠ ad.block) ∧ some k ≠ vl1.ownBlock := fun k hk => ⟨⟨by omega, fun ad e => by have := (HE.out.ne ad e).2; omega⟩, fun e => by have := (HVB.out k e.symm).1; omega⟩
           have hfr4 : ∀ k, w4.heap.size ≤ k → (k ≠ g ∧ ∀ ad, A = some ad → k ≠ ad.block) := fun k hk => (hokp4 k (by omega)).1
           have hbs4 : base ≤ w4.heap.size := by omega
           have hEc5 : ∀ w5, w4.grownBy w5 vl1.ownBlock → w5.cell? ⟨g, 1, none⟩ = some vl1 := fun w5 h5 => (World.cell?_of_block (h5.block g (by omega) (fun e => (HVB.out g e.symm).2.1 rfl))).trans hg4
           have hEf5 : ∀ w5, w4.grownBy w5 vl1.ownBlock → w5.frozen? ⟨g, 1, none⟩ = false := fun w5 h5 => (World.frozen?_of_block (h5.block g (by omega) (fun e => (HVB.out g e.symm).2.1 rfl))).trans (by simp [World.frozen?, hE4.cell])
           clear hr4)
        | (refine Kd.R_append_step k32 (w0 := w4) base rfl (.tmp 16) (.tmp 19) 28 32 (.agg #[.int .i64 0, .int .i64 0, .slice none 0 0, .int .i64 0]) 48 rfl Try.underlying28 info_ev rfl (by decide) (by omega) vl1 y x [.int .i64 x.f0, .int .i64 x.f1, v2, .int .i64 x.f3] (fun k => k ≠ g ∧ ∀ ad, A = some ad → k ≠ ad.block) (fun k => wr.heap.size ≤ k) rfl rfl hp4 hokp4 hfr4 hR4 (Below.refl _ _) hbs4 hln4 ?_
           intro v5 w5 hR5 hb5 hg5 hat5
           have hc5 : w5.cell? ⟨g, 1, none⟩ = some vl1 := hEc5 w5 hg5
           rw [HY2.out] at hR5
           obtain ⟨Ao5, co5, eo5⟩ := Kd.R_slice hR5
           subst eo5
           have hf5 : w5.frozen? ⟨g, 1, none⟩ = false := hEf5 w5 hg5))
      all_goals
        have hE5 : w5.heap[g]? = some (.cells #[.slice A xs.length c, vl1] 46 (0, 0)) := (hg5.block g (by omega) (fun e => (HVB.out g e.symm).2.1 rfl)).trans hE4.cell
        have S (u : Value) : Below 0 w5 (w5.setCell ⟨g, 1, none⟩ u) := (Below.refl 0 w5).setCell (Nat.zero_le _) _
        have hK5 := HK.out.trans ((KeepBut.of_below hb4' g vl1.ownBlock).trans (KeepBut.of_grown hg5 g) (.inl rfl)) HO.out
        have hE6 : EnvC (w5.setCell ⟨g, 1, none⟩ (.slice Ao5 y2.length co5)) g A c xs (.slice Ao5 y2.length co5) := by
          refine ⟨blk_set hE5 1 _, ?_, HE.out.fit, fun ad e => ⟨(HE.out.ne ad e).1, Nat.lt_of_lt_of_le (HE.out.ne ad e).2 (Nat.le_trans hsz4 (Nat.le_trans hg5.size (S _).size))⟩⟩
          refine hE4.bytes.blk fun ad e => (Below.heap_setCell _ _ _ _ (HE.out.ne ad e).1).trans (hg5.block _ (hE4.ne ad e).2 (fun e' => (HVB.out _ e'.symm).2.2 ad e rfl))
        have hV6 : EvR (w5.setCell ⟨g, 1, none⟩ (.slice Ao5 y2.length co5)) base g A (.slice Ao5 y2.length co5) (evs ++ l.take (i + 1)) := by
          unfold EvR
          rw [← HY3.out]
          exact Kd.R_set hR5 hE5 (by decide) 1 _
        have hO6 : (Value.slice Ao5 y2.length co5).ownBlock = vl.ownBlock ∨ ∃ b, (Value.slice Ao5 y2.length co5).ownBlock = some b ∧ w.heap.size ≤ b := by
          rcases hat5 with h | ⟨b, h, h'⟩
          · rw [h]; exact HO.out
          · exact .inr ⟨b, h, Nat.le_trans HK.out.1 (Nat.le_trans hsz4 h')⟩
        have hS6 : (w5.setCell ⟨g, 1, none⟩ (.slice Ao5 y2.length co5)).os = w.os ∧ (w5.setCell ⟨g, 1, none⟩ (.slice Ao5 y2.length co5)).tape = w.tape ∧ (w5.setCell ⟨g, 1, none⟩ (.slice Ao5 y2.length co5)).output = w.output :=
          ⟨(S _).os.trans (hg5.os.trans (hb4'.os.trans HS.out.1)), (S _).tape.trans (hg5.tape.trans (hb4'.tape.trans HS.out.2.1)), (S _).output.trans (hg5.output.trans (hb4'.output.trans HS.out.2.2))⟩
        have HE6 := Aside0.mk hE6
        have HV6 := Aside0.mk hV6
        have HK6 := Aside0.mk (hK5.set_ 1 (.slice Ao5 y2.length co5))
        have HO6 := Aside0.mk hO6
        have HS6 := Aside0.mk hS6
        clear hE5 S hK5 hE6 hV6 hO6 hS6
        go_wp2_with fail
        go_roundg (gk - 1)
        case measure => have := HN.out; omega
        case rel => exact ⟨i + 1, _, by rw [Int.natCast_add]; rfl, ⟨by have := HN.out; omega⟩, HE6, HV6, HK6, HO6, HS6⟩
    · have i0 : ((i : Int) < (l.length : Int)) = False := eq_false (by omega)
      have he : i = l.length := by have := HN.out; omega
      go_wp2_with fail
      go_end0
      exact ⟨rfl, vl1, HE.out, by have h := HV.out; rw [he, List.take_length] at h; exact h, HK.out, HO.out, HS.out.1, HS.out.2.1, HS.out.2.2⟩

end Go.Proofs.Ytodgpncfjogdbaa.Man
