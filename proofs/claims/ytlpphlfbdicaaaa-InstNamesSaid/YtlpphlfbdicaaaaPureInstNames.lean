/- InstNames: the plain law. -/
import Derived.Test.YtlpphlfbdicaaaaQInstNamesx6
import Derived.KernelRfl
import Derived.Laws.Strings
namespace Go.Proofs.Ytlpphlfbdicaaaa.Pure
open Go.RowKit Go.Proofs.Ytlpphlfbdicaaaa.QInstNames Go.Proofs.YtlpphlfbdicaaaaW.PrintWords Go.Proofs.YtlpphlfbdicaaaaW.PrintLast
/-- An operation's name. -/
def nm (i : Nat) : ByteArray := (rowsL.getD i z42).f2
def bl (s : ByteArray) : List UInt8 := s.data.toList
theorem toList_bl (s : ByteArray) : s.toList = bl s := ByteArray.toList_eq s
theorem bl_inj {s t : ByteArray} (h : bl s = bl t) : s = t := by
  cases s with | mk a => cases t with | mk b => exact congrArg ByteArray.mk (Array.toList_inj.1 h)
theorem known_ok : dovetaillaw4_known.f 400 = some true := by kernel_rfl
def chk (i : Nat) : Bool := decide ((rowsL.getD i z42).f0 = (i : Int) + 1) && decide (bl (nm i) ≠ [])
def chkN (i : Nat) : Bool := (match dovetailref3_Name.f 400 ((i : Int) + 1) with | some t => decide (bl t = bl (nm i)) | none => false)
def chkD (i : Nat) : Bool := (List.range i).all fun j => decide (bl (nm j) ≠ bl (nm i))
theorem chk_all : (List.range 65).all chk = true := by kernel_rfl
theorem chkN_all : (List.range 65).all chkN = true := by kernel_rfl
theorem chkD_all : (List.range 65).all chkD = true := by kernel_rfl
theorem row_f0 {i : Nat} (h : i < 65) : (rowsL.getD i z42).f0 = (i : Int) + 1 := by
  have := List.all_eq_true.1 chk_all i (List.mem_range.2 h)
  unfold chk at this
  rw [Bool.and_eq_true] at this
  exact of_decide_eq_true this.1
theorem nm_ne {i : Nat} (h : i < 65) : bl (nm i) ≠ [] := by
  have := List.all_eq_true.1 chk_all i (List.mem_range.2 h)
  unfold chk at this
  rw [Bool.and_eq_true] at this
  exact of_decide_eq_true this.2
theorem ref_name {i : Nat} (h : i < 65) : dovetailref3_Name.f 400 ((i : Int) + 1) = some (nm i) := by
  have := List.all_eq_true.1 chkN_all i (List.mem_range.2 h)
  unfold chkN at this
  split at this
  · rename_i t e
    rw [e, bl_inj (of_decide_eq_true this)]
  · cases this
theorem nm_apart {i j : Nat} (h : i < 65) (hj : j < i) : bl (nm j) ≠ bl (nm i) := by
  have := List.all_eq_true.1 (List.all_eq_true.1 chkD_all i (List.mem_range.2 h)) j (List.mem_range.2 hj)
  exact of_decide_eq_true this
theorem ref_name_k {i k : Nat} (h : i < 65) (hk : 400 ≤ k) : dovetailref3_Name.f k ((i : Int) + 1) = some (nm i) := at_rounds (dovetailref3_Name.mono _) hk (ref_name h)
theorem wrap_succ {j : Nat} (h : j < 100) : wrap64 ((j : Int) + 1) = ((j + 1 : Nat) : Int) := by
  unfold wrap64
  omega
theorem find_l (s : ByteArray) : ∀ d j : Nat, j + d = 65 → ∃ r : Int × Bool, (∀ k, d < k → inst_Find.l0 k s rowsL 65 (j : Int) = some r) ∧ (∀ k, d + 400 < k → dovetailref3_Find.l0 k s ((j + 1 : Nat) : Int) = some r)
  | 0, j, e => by
    obtain rfl : j = 65 := by omega
    refine ⟨(0, false), ?_, ?_⟩
    · intro k hk
      obtain ⟨k, rfl⟩ : ∃ m, k = m + 1 := ⟨k - 1, by omega⟩
      rw [inst_Find.l0, if_neg (by decide)]
    · intro k hk
      obtain ⟨k, rfl⟩ : ∃ m, k = m + 1 := ⟨k - 1, by omega⟩
      rw [dovetailref3_Find.l0, if_neg (by decide)]
  | d + 1, j, e => by
    have hj : j < 65 := by omega
    have hrd : rd_T42 rowsL (j : Int) = rowsL.getD j z42 := by unfold rd_T42; rw [Int.toNat_natCast]
    have hw : wrap64 ((j : Int) + 1) = ((j + 1 : Nat) : Int) := wrap_succ (by omega)
    have hw2 : wrap64 (((j + 1 : Nat) : Int) + 1) = ((j + 1 + 1 : Nat) : Int) := wrap_succ (by omega)
    obtain ⟨r, h1, h2⟩ := find_l s d (j + 1) (by omega)
    by_cases hs : bl (nm j) = bl s
    · refine ⟨((j : Int) + 1, true), ?_, ?_⟩
      · intro k hk
        obtain ⟨k, rfl⟩ : ∃ m, k = m + 1 := ⟨k - 1, by omega⟩
        rw [inst_Find.l0, if_pos (by omega), if_pos (by omega), rows_len, if_pos (by omega), hrd, if_pos (by rw [toList_bl, toList_bl]; exact hs), row_f0 hj]
      · intro k hk
        obtain ⟨k, rfl⟩ : ∃ m, k = m + 1 := ⟨k - 1, by omega⟩
        have hn : dovetailref3_Name.f k ((j + 1 : Nat) : Int) = some (nm j) := by rw [Int.natCast_add]; exact ref_name_k hj (by omega)
        rw [dovetailref3_Find.l0, if_pos (by omega), hn, Option.bind_some, if_pos (by rw [toList_bl, toList_bl]; exact hs), if_neg (by rw [toList_bl, ← hs]; exact nm_ne hj), Int.natCast_add]
        rfl
    · refine ⟨r, ?_, ?_⟩
      · intro k hk
        obtain ⟨k, rfl⟩ : ∃ m, k = m + 1 := ⟨k - 1, by omega⟩
        rw [inst_Find.l0, if_pos (by omega), if_pos (by omega), rows_len, if_pos (by omega), hrd, if_neg (by rw [toList_bl, toList_bl]; exact hs), hw]
        exact h1 k (by omega)
      · intro k hk
        obtain ⟨k, rfl⟩ : ∃ m, k = m + 1 := ⟨k - 1, by omega⟩
        have hn : dovetailref3_Name.f k ((j + 1 : Nat) : Int) = some (nm j) := by rw [Int.natCast_add]; exact ref_name_k hj (by omega)
        rw [dovetailref3_Find.l0, if_pos (by omega), hn, Option.bind_some, if_neg (by rw [toList_bl, toList_bl]; exact hs), hw2]
        exact h2 k (by omega)
/-- A name is found: its operation. -/
theorem find_nm {i : Nat} (hi : i < 65) : ∀ d j : Nat, j + d = i → ∀ k, d < k → inst_Find.l0 k (nm i) rowsL 65 (j : Int) = some ((i : Int) + 1, true)
  | 0, j, e, k, hk => by
    obtain rfl : j = i := by omega
    obtain ⟨k, rfl⟩ : ∃ m, k = m + 1 := ⟨k - 1, by omega⟩
    have hrd : rd_T42 rowsL (j : Int) = rowsL.getD j z42 := by unfold rd_T42; rw [Int.toNat_natCast]
    rw [inst_Find.l0, if_pos (by omega), if_pos (by omega), rows_len, if_pos (by omega), hrd, if_pos (by rfl), row_f0 hi]
  | d + 1, j, e, k, hk => by
    obtain ⟨k, rfl⟩ : ∃ m, k = m + 1 := ⟨k - 1, by omega⟩
    have hrd : rd_T42 rowsL (j : Int) = rowsL.getD j z42 := by unfold rd_T42; rw [Int.toNat_natCast]
    have hw : wrap64 ((j : Int) + 1) = ((j + 1 : Nat) : Int) := wrap_succ (by omega)
    rw [inst_Find.l0, if_pos (by omega), if_pos (by omega), rows_len, if_pos (by omega), hrd, if_neg (by rw [toList_bl, toList_bl]; exact nm_apart hi (by omega)), hw]
    exact find_nm hi d (j + 1) (by omega) k (by omega)
theorem Find_nm {i k : Nat} (hi : i < 65) (hk : 100 < k) : inst_Find.f k (nm i) = some ((i : Int) + 1, true) := by
  unfold inst_Find.f
  rw [rows_f, Option.bind_some, rows_len]
  exact find_nm hi i 0 (by omega) k (by omega)
theorem Find_same (s : ByteArray) : ∃ r : Int × Bool, (∀ k, 500 < k → inst_Find.f k s = some r) ∧ (∀ k, 500 < k → dovetailref3_Find.f k s = some r) := by
  obtain ⟨r, h1, h2⟩ := find_l s 65 0 (by omega)
  refine ⟨r, fun k hk => ?_, fun k hk => ?_⟩
  · unfold inst_Find.f
    rw [rows_f, Option.bind_some, rows_len]
    exact h1 k (by omega)
  · exact h2 k (by omega)
theorem Name_in {i : Nat} (hi : i < 65) : inst_Name.f ((i : Int) + 1) = some (nm i) := by
  have hw : wrap64 ((i : Int) + 1 - 1) = (i : Int) := by unfold wrap64; omega
  unfold inst_Name.f inst_find.f
  rw [rows_f, Option.bind_some, if_neg (by omega), rows_len, if_neg (by omega), hw, if_pos (by omega), if_pos (by omega), Option.bind_some]
  show some (rd_T42 rowsL (i : Int)).f2 = _
  unfold rd_T42
  rw [Int.toNat_natCast]
  rfl
theorem Name_out {a : Int} (h : ¬ (1 ≤ a ∧ a < 66)) : inst_Name.f a = some ⟨#[]⟩ := by
  unfold inst_Name.f inst_find.f
  rw [rows_f, Option.bind_some, rows_len]
  by_cases h1 : a < 1
  · rw [if_pos h1]; rfl
  · rw [if_neg h1, if_pos (by omega)]; rfl
theorem Name_is (a : Int) : (∃ i : Nat, i < 65 ∧ a = (i : Int) + 1 ∧ inst_Name.f a = some (nm i)) ∨ (¬ (1 ≤ a ∧ a < 66) ∧ inst_Name.f a = some ⟨#[]⟩) := by
  by_cases h : 1 ≤ a ∧ a < 66
  · refine .inl ⟨(a - 1).toNat, by omega, by omega, ?_⟩
    have e : a = (((a - 1).toNat : Nat) : Int) + 1 := by omega
    have := Name_in (i := (a - 1).toNat) (by omega)
    rw [← e] at this
    exact this
  · exact .inr ⟨h, Name_out h⟩
end Go.Proofs.Ytlpphlfbdicaaaa.Pure
