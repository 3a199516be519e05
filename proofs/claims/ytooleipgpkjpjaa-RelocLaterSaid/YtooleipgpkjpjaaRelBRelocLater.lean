/- Plain facts on relocations put in one behind the other, as the print of RelocLater spells them: a change of bytes at a place says nothing of other places; what is put in twice is what was put in last. -/
import Derived.Test.YtooleipgpkjpjaaRelARelocLater
namespace Go.Proofs.Ytooleipgpkjpjaa.RelRelocLater
open Go.RowKit Go.Proofs.Ytooleipgpkjpjaa.QRelocLater Go.Proofs.YtooleipgpkjpjaaW.PrintWords Go.Proofs.YtooleipgpkjpjaaW.PrintLast Go.Proofs.YtooleipgpkjpjaaW.PrintMore Go.Proofs.Ytooleipgpkjpjaa.Bv
set_option linter.unusedSimpArgs false
set_option linter.unusedVariables false

theorem splice_at (l c : List Int) (o i : Nat) (h : o + c.length ≤ l.length) : (splice l o c)[i]? = if o ≤ i ∧ i < o + c.length then c[i - o]? else l[i]? := by
  unfold splice
  have e : (l.take o).length = o := by simp; omega
  by_cases h1 : i < o
  · rw [List.getElem?_append_left (by omega), if_neg (by omega), List.getElem?_take_of_lt h1]
  · rw [List.getElem?_append_right (by omega), e]
    by_cases h2 : i < o + c.length
    · rw [if_pos (by omega), List.getElem?_append_left (by omega)]
    · rw [if_neg (by omega), List.getElem?_append_right (by omega), List.getElem?_drop]
      congr 1; omega

theorem b4_length (Y : BitVec 64) : (b4 Y).length = 4 := rfl
/-- A change of bytes of a place alone, that goes by these bytes alone. -/
def Local (o n : Nat) (E : List Int → List Int) : Prop :=
  ∀ l, o + n ≤ l.length → (E l).length = l.length ∧ (∀ i, ¬ (o ≤ i ∧ i < o + n) → (E l)[i]? = l[i]?) ∧
    ∀ m, o + n ≤ m.length → (∀ i, o ≤ i → i < o + n → m[i]? = l[i]?) → ∀ i, o ≤ i → i < o + n → (E m)[i]? = (E l)[i]?
theorem Local.wide {o n a r : Nat} {E : List Int → List Int} (h : Local o n E) (h1 : a ≤ o) (h2 : o + n ≤ a + r) : Local a r E := by
  intro l hl
  obtain ⟨p1, p2, p3⟩ := h l (by omega)
  refine ⟨p1, fun i hi => p2 i (by omega), fun m hm hq i hi hj => ?_⟩
  by_cases hin : o ≤ i ∧ i < o + n
  · exact p3 m (by omega) (fun i a b => hq i (by omega) (by omega)) i hin.1 hin.2
  · rw [p2 i hin, (h m (by omega)).2.1 i hin]
    exact hq i hi hj
theorem Local.comp {o n : Nat} {E F : List Int → List Int} (hE : Local o n E) (hF : Local o n F) : Local o n (fun l => F (E l)) := by
  intro l hl
  obtain ⟨p1, p2, p3⟩ := hE l hl
  obtain ⟨q1, q2, q3⟩ := hF (E l) (by omega)
  refine ⟨by rw [q1, p1], fun i hi => by rw [q2 i hi, p2 i hi], fun m hm hq i hi hj => ?_⟩
  exact q3 (E m) (by rw [(hE m hm).1]; exact hm) (fun i a b => p3 m hm hq i a b) i hi hj
theorem Local.comm {o n p r : Nat} {E F : List Int → List Int} (hE : Local o n E) (hF : Local p r F) (h : o + n ≤ p) (l : List Int) (hl : p + r ≤ l.length) : F (E l) = E (F l) := by
  obtain ⟨e1, e2, e3⟩ := hE l (by omega)
  obtain ⟨f1, f2, f3⟩ := hF l (by omega)
  obtain ⟨g1, g2, g3⟩ := hF (E l) (by omega)
  obtain ⟨d1, d2, d3⟩ := hE (F l) (by omega)
  apply List.ext_getElem?
  intro i
  by_cases hp : p ≤ i ∧ i < p + r
  · rw [d2 i (by omega)]
    exact f3 (E l) (by omega) (fun j a b => e2 j (by omega)) i hp.1 hp.2
  · rw [g2 i hp]
    by_cases ho : o ≤ i ∧ i < o + n
    · exact (e3 (F l) (by omega) (fun j a b => f2 j (by omega)) i ho.1 ho.2).symm
    · rw [e2 i ho, d2 i ho, f2 i hp]
theorem local_splice (o : Nat) (c : List Int) : Local o c.length (fun l => splice l o c) := by
  intro l hl
  refine ⟨length_splice _ _ _ hl, fun i hi => by rw [splice_at _ _ _ _ hl, if_neg hi], fun m hm hq i hi hj => ?_⟩
  rw [splice_at _ _ _ _ hl, splice_at _ _ _ _ hm, if_pos ⟨hi, hj⟩, if_pos ⟨hi, hj⟩]
theorem rd_at (l m : List Int) (n : Nat) (h : m[n]? = l[n]?) : rd m (n : Int) = rd l (n : Int) := by
  unfold rd
  rw [Int.toNat_natCast, List.getD_eq_getElem?_getD, List.getD_eq_getElem?_getD, h]
theorem w4_at (l m : List Int) (o : Nat) (h : ∀ i, o ≤ i → i < o + 4 → m[i]? = l[i]?) : w4 m o = w4 l o := by
  unfold w4
  rw [rd_at l m o (h o (by omega) (by omega)), rd_at l m (o + 1) (h _ (by omega) (by omega)), rd_at l m (o + 2) (h _ (by omega) (by omega)), rd_at l m (o + 3) (h _ (by omega) (by omega))]
theorem local_insB (f : Int) (o : Nat) (V : BitVec 64) : Local o 4 (fun l => insB f l o V) := by
  intro l hl
  refine ⟨insB_length _ _ _ _ hl, fun i hi => ?_, fun m hm hq i hi hj => ?_⟩
  · exact (local_splice o (b4 ((putB f (w4 l o) V).setWidth 64)) l (by simpa [b4] using hl)).2.1 i (by simpa [b4] using hi)
  · show (insB f m o V)[i]? = (insB f l o V)[i]?
    unfold insB
    rw [w4_at l m o hq, splice_at l _ o i (by rw [b4_length]; exact hl), splice_at m _ o i (by rw [b4_length]; exact hm)]
    rw [if_pos (show _ ∧ _ from ⟨hi, by rw [b4_length]; exact hj⟩), if_pos (show _ ∧ _ from ⟨hi, by rw [b4_length]; exact hj⟩)]
theorem splice_same (l c d : List Int) (o : Nat) (h : c.length = d.length) (hl : o + c.length ≤ l.length) : splice (splice l o c) o d = splice l o d := by
  apply List.ext_getElem?
  intro i
  rw [splice_at _ _ _ _ (by rw [length_splice _ _ _ hl]; omega), splice_at l d o i (by omega), splice_at l c o i hl]
  by_cases hi : o ≤ i ∧ i < o + d.length
  · rw [if_pos hi, if_pos hi]
  · rw [if_neg hi, if_neg hi, if_neg (by omega)]
theorem rd_splice (l c : List Int) (o j : Nat) (x : Int) (hl : o + c.length ≤ l.length) (hj : c[j]? = some x) : rd (splice l o c) ((o + j : Nat) : Int) = x := by
  have hj' : j < c.length := (List.getElem?_eq_some_iff.1 hj).1
  unfold rd
  rw [Int.toNat_natCast, List.getD_eq_getElem?_getD, splice_at _ _ _ _ hl, if_pos (by omega), show o + j - o = j from by omega, hj]
  rfl
theorem w4_splice (l : List Int) (o : Nat) (Y : BitVec 64) (hl : o + 4 ≤ l.length) : w4 (splice l o (b4 Y)) o = Y.setWidth 32 := by
  have h4 : o + (b4 Y).length ≤ l.length := by simpa [b4] using hl
  unfold w4
  rw [show rd (splice l o (b4 Y)) (o : Int) = _ from rd_splice l (b4 Y) o 0 _ h4 (by rfl), rd_splice l (b4 Y) o 1 _ h4 (by rfl), rd_splice l (b4 Y) o 2 _ h4 (by rfl), rd_splice l (b4 Y) o 3 _ h4 (by rfl)]
  simp only [ofInt_toNat]
  apply ext32 <;> simp
theorem put_put (f : Int) (X : BitVec 32) (V W : BitVec 64) : putB f (putB f X V) W = putB f X W := by
  by_cases h1 : f = 1
  · subst h1; unfold putB; simp only [if_true]; apply ext32 <;> simp
  by_cases h2 : f = 2
  · subst h2; unfold putB; simp only [if_true, if_neg h1]; apply ext32 <;> simp
  by_cases h3 : f = 3
  · subst h3; unfold putB; simp only [if_true, if_neg h1, if_neg h2]; apply ext32 <;> simp
  by_cases h4 : f = 4
  · subst h4; unfold putB; simp only [if_true, if_neg h1, if_neg h2, if_neg h3]; apply ext32 <;> simp
  by_cases h5 : f = 5
  · subst h5; unfold putB; simp only [if_true, if_neg h1, if_neg h2, if_neg h3, if_neg h4]; apply ext32 <;> simp
  unfold putB
  simp only [if_neg h1, if_neg h2, if_neg h3, if_neg h4, if_neg h5]
theorem insB_same (f : Int) (l : List Int) (o : Nat) (V W : BitVec 64) (hl : o + 4 ≤ l.length) : insB f (insB f l o V) o W = insB f l o W := by
  have e : w4 (insB f l o V) o = putB f (w4 l o) V := by
    rw [insB, w4_splice l o _ hl]
    simp
  conv => lhs; rw [insB, e, put_put]
  rw [insB, splice_same _ _ _ _ (by simp [b4]) (by simpa [b4] using hl), insB]
theorem insB_comm (f g : Int) (l : List Int) (o p : Nat) (V W : BitVec 64) (h : o + 4 ≤ p) (hl : p + 4 ≤ l.length) : insB f (insB g l o V) p W = insB g (insB f l p W) o V :=
  (local_insB g o V).comm (local_insB f p W) h l hl

/-- What the types of these statements leave, each told in bytes. -/
def editOf (o : Nat) (t : Int) (V : BitVec 64) (l : List Int) : List Int := (applyS l o t V).getD []
theorem editOf_some (o : Nat) (t : Int) (V : BitVec 64) (l : List Int) (h : t ≠ 16) (h' : t ≠ 17) : applyS l o t V = some (editOf o t V l) := by
  unfold editOf applyS
  simp only [if_neg h, if_neg h']
  (repeat' split) <;> rfl
theorem local_edit (o : Nat) (t : Int) (V : BitVec 64) (h : t ≠ 16) (h' : t ≠ 17) (w : Nat) (hw : width t ≤ w) : Local o w (editOf o t V) := by
  unfold width at hw
  by_cases h51 : t = 51
  · intro l hl
    have e (m) : editOf o t V m = m := by unfold editOf applyS; rw [if_pos h51]; rfl
    exact ⟨by rw [e], fun i _ => by rw [e], fun m hm hq i a b => by rw [e, e]; exact hq i a b⟩
  by_cases h1 : t = 1
  · have e : editOf o t V = fun l => splice l o (b4 V) := by funext m; unfold editOf applyS; rw [if_neg h51, if_pos h1]; rfl
    rw [e]; exact (local_splice o (b4 V)).wide (Nat.le_refl _) (by simp [b4]; split at hw <;> (try split at hw) <;> omega)
  by_cases h2 : t = 2
  · have e : editOf o t V = fun l => splice l o (b8 V) := by funext m; unfold editOf applyS; rw [if_neg h51, if_neg h1, if_pos h2]; rfl
    rw [e]; exact (local_splice o (b8 V)).wide (Nat.le_refl _) (by simp [b4, b8]; rw [if_pos (.inl h2)] at hw; omega)
  by_cases h18 : t = 18 ∨ t = 19
  · have e : editOf o t V = fun l => insB 1 (insB 4 l o (hiB V)) (o + 4) (loB V) := by funext m; unfold editOf applyS; rw [if_neg h51, if_neg h1, if_neg h2, if_neg h, if_neg h', if_pos h18]; rfl
    rw [if_pos (.inr h18)] at hw
    rw [e]
    exact Local.comp ((local_insB 4 o (hiB V)).wide (Nat.le_refl _) (by omega)) ((local_insB 1 (o + 4) (loB V)).wide (by omega) (by omega))
  rw [if_neg (by omega), if_neg h51] at hw
  by_cases h23 : t = 23 ∨ t = 26
  · have e : editOf o t V = fun l => insB 4 l o (hiB V) := by funext m; unfold editOf applyS; rw [if_neg h51, if_neg h1, if_neg h2, if_neg h, if_neg h', if_neg h18, if_pos h23]; rfl
    rw [e]; exact (local_insB _ _ _).wide (Nat.le_refl _) (by omega)
  by_cases h24 : t = 24 ∨ t = 27
  · have e : editOf o t V = fun l => insB 1 l o (loB V) := by funext m; unfold editOf applyS; rw [if_neg h51, if_neg h1, if_neg h2, if_neg h, if_neg h', if_neg h18, if_neg h23, if_pos h24]; rfl
    rw [e]; exact (local_insB _ _ _).wide (Nat.le_refl _) (by omega)
  · have e : editOf o t V = fun l => insB 2 l o (loB V) := by funext m; unfold editOf applyS; rw [if_neg h51, if_neg h1, if_neg h2, if_neg h, if_neg h', if_neg h18, if_neg h23, if_neg h24]; rfl
    rw [e]; exact (local_insB _ _ _).wide (Nat.le_refl _) (by omega)
theorem edit_same (o : Nat) (t : Int) (V W : BitVec 64) (l : List Int) (h : t ≠ 16) (h' : t ≠ 17) (hk : knownP t) (hl : o + width t ≤ l.length) : editOf o t W (editOf o t V l) = editOf o t W l := by
  rcases known_cases hk with rfl | rfl | rfl | rfl | rfl | rfl | rfl | rfl | rfl | rfl | rfl | rfl | rfl
  · exact splice_same l (b4 V) (b4 W) o (by simp [b4]) (by simpa [b4, width] using hl)
  · exact splice_same l (b8 V) (b8 W) o (by simp [b4, b8]) (by simpa [b4, b8, width] using hl)
  · exact absurd rfl h
  · exact absurd rfl h'
  · have h8 : o + 8 ≤ l.length := by simpa [width] using hl
    show insB 1 (insB 4 (insB 1 (insB 4 l o (hiB V)) (o + 4) (loB V)) o (hiB W)) (o + 4) (loB W) = insB 1 (insB 4 l o (hiB W)) (o + 4) (loB W)
    have hl1 : (insB 4 l o (hiB V)).length = l.length := insB_length _ _ _ _ (by omega)
    rw [← insB_comm 1 4 (insB 4 l o (hiB V)) o (o + 4) (hiB W) (loB V) (by omega) (by omega), insB_same 4 l o _ _ (by omega), insB_same 1 _ (o + 4) _ _ (by rw [insB_length _ _ _ _ (by omega)]; omega)]
  · have h8 : o + 8 ≤ l.length := by simpa [width] using hl
    show insB 1 (insB 4 (insB 1 (insB 4 l o (hiB V)) (o + 4) (loB V)) o (hiB W)) (o + 4) (loB W) = insB 1 (insB 4 l o (hiB W)) (o + 4) (loB W)
    have hl1 : (insB 4 l o (hiB V)).length = l.length := insB_length _ _ _ _ (by omega)
    rw [← insB_comm 1 4 (insB 4 l o (hiB V)) o (o + 4) (hiB W) (loB V) (by omega) (by omega), insB_same 4 l o _ _ (by omega), insB_same 1 _ (o + 4) _ _ (by rw [insB_length _ _ _ _ (by omega)]; omega)]
  · exact insB_same 4 l o _ _ (by simpa [width] using hl)
  · exact insB_same 1 l o _ _ (by simpa [width] using hl)
  · exact insB_same 2 l o _ _ (by simpa [width] using hl)
  · exact insB_same 4 l o _ _ (by simpa [width] using hl)
  · exact insB_same 1 l o _ _ (by simpa [width] using hl)
  · exact insB_same 2 l o _ _ (by simpa [width] using hl)
  · rfl
theorem applyR_some (l : List Int) (o : Nat) (t : Int) (V : BitVec 64) (hk : knownP t) (h : t ≠ 16) (h' : t ≠ 17) (hl : o + width t ≤ l.length) : applyR l o t V = (editOf o t V l, 0) := by
  unfold applyR
  rw [if_pos hk, if_pos hl, editOf_some o t V l h h']

end Go.Proofs.Ytooleipgpkjpjaa.RelRelocLater
